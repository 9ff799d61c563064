/-
AE, part N: operations that make objects.
AE, part O: alloc, box, makeMap, makeSlice.
AE, part P: slices that grow, with memory: made, appended to.
AE, part Q: append.
AE, part R: append, whole.
AE, part S: stores.
-/
import Derived.Test.YtmnkgecogbhbnaaDoorAe2
import Derived.Deep.AppendSrc
namespace Go.AE
open Go

/-- A run of an operation with effects. -/
def EN (k : K) (X : XR) (w : World) (cx : Cx) (fs' : FS) (a : Act) (s : Sem Next) (v : V) : Prop :=
  ∃ nx w' cx', s.run k.E.P w = .ok nx w' ∧ FR k X w' cx' fs' a ∧ Le k.base X w cx w' cx' ∧ ((∃ c, nx = .value c ∧ VR k.sg w' cx' v c) ∨ (nx = .skip ∧ v = undefV))

section
variable {k : K} {X : XR} {w w' : World} {cx cx' : Cx} {fs fs' : FS} {a : Act}

theorem CR.mono {cs : List V} {l : List Value} (h : CR k w cx cs l) (le : Le k.base X w cx w' cx') : CR k w' cx' cs l :=
  ⟨h.1, h.2.1, fun i c v hc hv => (h.2.2 i c v hc hv).mono le⟩

theorem EN.val {s : Sem Value} {v : V} {c : Value} {w' : World} {cx' : Cx} (h : s.run k.E.P w = .ok c w') (fr : FR k X w' cx' fs' a) (le : Le k.base X w cx w' cx') (hv : VR k.sg w' cx' v c) :
    EN k X w cx fs' a (do pure (.value (← s))) v :=
  ⟨.value c, w', cx', by simp only [Sem.run_bind, h, Result.andThen_ok, Sem.run_pure], fr, le, .inl ⟨c, rfl, hv⟩⟩

theorem EN.unit {s : Sem Unit} {w' : World} {cx' : Cx} (h : s.run k.E.P w = .ok () w') (fr : FR k X w' cx' fs' a) (le : Le k.base X w cx w' cx') :
    EN k X w cx fs' a (do s; pure .skip) undefV :=
  ⟨.skip, w', cx', by simp only [Sem.run_bind, h, Result.andThen_ok, Sem.run_pure], fr, le, .inr ⟨rfl, rfl⟩⟩

theorem alloc_old (w : World) (o : Go.Obj) {b : Nat} (hb : b < w.heap.size) : (w.alloc o).heap[b]? = w.heap[b]? := by
  show (w.heap.push o)[b]? = _
  simp [Array.getElem?_push, Nat.ne_of_lt hb]
theorem alloc_new (w : World) (o : Go.Obj) : (w.alloc o).heap[w.heap.size]? = some o := by
  show (w.heap.push o)[w.heap.size]? = _
  simp
theorem alloc_size (w : World) (o : Go.Obj) : (w.alloc o).heap.size = w.heap.size + 1 := by
  show (w.heap.push o).size = _
  simp

/-- New cells. -/
theorem new_cells (fr : FR k X w cx fs a) (g : Bool) {cs : List V} {l : List Value} (T : Nat) (h : CR k w cx cs l) (hgl : g = true → globO (.cells cs) = true) :
    FR k X (w.alloc (.cells ⟨l⟩ T (0, 0))) (cx.newBlk (fs.newObj g (.cells cs)).1 w.heap.size) (fs.newObj g (.cells cs)).2 a ∧ Le k.base X w cx (w.alloc (.cells ⟨l⟩ T (0, 0))) (cx.newBlk (fs.newObj g (.cells cs)).1 w.heap.size) := by
  have hs : w.heap.size ≤ (w.alloc (.cells ⟨l⟩ T (0, 0))).heap.size := by rw [alloc_size]; omega
  have hk := fun b (hb : b < w.heap.size) => alloc_old w (.cells ⟨l⟩ T (0, 0)) hb
  obtain ⟨ha, hb0, hv0⟩ := new_fresh fr g (.cells cs)
  have le := le_newBlk (b := w.heap.size) fr ha hs hk ⟨rfl, rfl⟩
  refine ⟨fr.newBlk g _ hs hk ⟨rfl, rfl⟩ (Nat.le_refl _) (by rw [alloc_size]; omega) ?_ hgl, le⟩
  have h' := h.mono le
  exact ⟨hv0, w.heap.size, T, l, by simp [Cx.newBlk], alloc_new w _, h.1, h.2.1, h'.2.2, fun i hS => Nat.lt_irrefl _ (fr.slt _ i hS)⟩

theorem ptr_new (g : Bool) (o : Obj) (b : Nat) : VR k.sg w' (cx.newBlk (fs.newObj g o).1 b) (.ptr (fs.newObj g o).1 0) (.pointer (some ⟨b, 0, none⟩)) :=
  .ptr _ _ _ (.inr rfl) fun b' hb' => by
    have : b = b' := by simpa [Cx.newBlk] using hb'
    rw [this]

/-- New slices that grow, without memory. -/
theorem new_vec0 (fr : FR k X w cx fs a) (g : Bool) : FR k X w (cx.newVec (fs.newObj g (.vec none [] 0)).1 ⟨0, none, 0, 0⟩ fun _ _ => False) (fs.newObj g (.vec none [] 0)).2 a ∧
    Le k.base X w cx w (cx.newVec (fs.newObj g (.vec none [] 0)).1 ⟨0, none, 0, 0⟩ fun _ _ => False) ∧
    VR k.sg w (cx.newVec (fs.newObj g (.vec none [] 0)).1 ⟨0, none, 0, 0⟩ fun _ _ => False) (.vec (fs.newObj g (.vec none [] 0)).1 0) (.slice none 0 0) := by
  obtain ⟨ha, hb0, hv0⟩ := new_fresh fr g (.vec none [] 0)
  refine ⟨fr.newVec g _ (Nat.le_refl _) (fun b _ => rfl) (.refl w) (fun _ _ h => h.elim) (fun b hb => by cases hb) ?_, le_newVec fr ha (Nat.le_refl _) (fun b _ => rfl) (.refl w) (fun _ _ h => h.elim), ?_⟩
  · refine ⟨hb0, ⟨0, none, 0, 0⟩, by simp [Cx.newVec], rfl, Nat.le_refl _, ?_⟩
    exact ⟨rfl, rfl⟩
  · refine .vec _ _ _ _ (.inr rfl) fun q hq => ?_
    have : (⟨0, none, 0, 0⟩ : VC) = q := by simpa [Cx.newVec] using hq
    subst this
    exact ⟨Nat.le_refl _, fun _ => rfl⟩

theorem CR.set {cs : List V} {l : List Value} (h : CR k w cx cs l) {j : Nat} {v : V} {c : Value} (hc : l[j]? = some c) (hv : VR k.sg w cx v c) : CR k w cx (cs.set j v) l := by
  refine ⟨by simpa using h.1, h.2.1, fun i x y hx hy => ?_⟩
  rw [List.getElem?_set] at hx
  split at hx
  · rename_i hij
    subst hij
    split at hx
    · simp only [Option.some.injEq] at hx; subst hx
      rw [hc] at hy; simp only [Option.some.injEq] at hy; subst hy
      exact hv
    · cases hx
  · exact h.2.2 i x y hx hy

theorem growL_sound {g : Bool} : ∀ {offs : List Nat} {cs cs' : List V} {l : List Value} {fs fs' : FS} {cx : Cx} (_ : FR k X w cx fs a) (_ : CR k w cx cs l), growL g offs cs fs = some (cs', fs') →
    ∃ cx', FR k X w cx' fs' a ∧ Le k.base X w cx w cx' ∧ CR k w cx' cs' l ∧ cs'.length = cs.length := by
  intro offs
  induction offs with
  | nil =>
    intro cs cs' l fs fs' cx fr h e
    simp only [growL, Option.some.injEq, Prod.mk.injEq] at e
    obtain ⟨rfl, rfl⟩ := e
    exact ⟨cx, fr, Le.refl _ _ _ _, h, rfl⟩
  | cons off r ih =>
    intro cs cs' l fs fs' cx fr h e
    simp only [growL] at e
    split at e
    · rename_i hoff
      obtain ⟨f1, f2, f3⟩ := new_vec0 fr g
      have hlt : off < l.length := by rw [h.1]; exact (List.getElem?_eq_some_iff.1 hoff).1
      have hc : l[off]? = some l[off] := by simp [hlt]
      have hv := h.2.2 off _ _ hoff hc
      have hn : l[off] = .slice none 0 0 := by
        generalize l[off] = c at hv
        cases hv with | p _ _ hv =>
        cases hv with
        | nilS => rfl
        | list _ _ b o cap sz cv hk hl hcap => exact absurd rfl hk
      rw [hn] at hc
      obtain ⟨cx', g1, g2, g3, g4⟩ := ih f1 ((h.mono f2).set hc f3) e
      exact ⟨cx', g1, f2.trans g2, g3, by simpa using g4⟩
    · cases e

theorem growL_glob : ∀ {offs : List Nat} {cs cs' : List V} {fs fs' : FS} (_ : cs.all glob1 = true), growL true offs cs fs = some (cs', fs') → cs'.all glob1 = true := by
  intro offs
  induction offs with
  | nil =>
    intro cs cs' fs fs' h e
    simp only [growL, Option.some.injEq, Prod.mk.injEq] at e
    obtain ⟨rfl, rfl⟩ := e
    exact h
  | cons off r ih =>
    intro cs cs' fs fs' h e
    simp only [growL] at e
    split at e
    · refine ih ?_ e
      rw [List.all_eq_true] at h ⊢
      intro x hx
      rcases List.mem_or_eq_of_mem_set hx with hx | rfl
      · exact h x hx
      · rfl
    · cases e

theorem growV_sound {g : Bool} {offs : List Nat} {v v' : V} {c : Value} (fr : FR k X w cx fs a) (hv : VR k.sg w cx v c) (h : growV g offs v fs = some (v', fs')) :
    ∃ cx', FR k X w cx' fs' a ∧ Le k.base X w cx w cx' ∧ VR k.sg w cx' v' c := by
  unfold growV at h
  split at h
  · simp only [Option.some.injEq, Prod.mk.injEq] at h
    obtain ⟨rfl, rfl⟩ := h
    exact ⟨cx, fr, Le.refl _ _ _ _, hv⟩
  · split at h
    · rename_i cs
      simp only [Option.map_eq_some_iff] at h
      obtain ⟨⟨cs', fs1⟩, h1, h2⟩ := h
      simp only [Prod.mk.injEq] at h2
      obtain ⟨rfl, rfl⟩ := h2
      obtain ⟨cx', g1, g2, g3, _⟩ := growL_sound fr (hv.cells rfl) h1
      refine ⟨cx', g1, g2, ?_⟩
      have := g3.mkAgg
      cases hv with | p _ _ hv =>
      cases hv
      exact this
    · rename_i cs
      simp only [Option.map_eq_some_iff] at h
      obtain ⟨⟨cs', fs1⟩, h1, h2⟩ := h
      simp only [Prod.mk.injEq] at h2
      obtain ⟨rfl, rfl⟩ := h2
      obtain ⟨cx', g1, g2, g3, _⟩ := growL_sound fr (hv.cells rfl) h1
      refine ⟨cx', g1, g2, ?_⟩
      have := g3.mkAgg
      cases hv
      exact this
    · split at h
      · rename_i x fs1 h1
        simp only [Option.some.injEq, Prod.mk.injEq] at h
        obtain ⟨rfl, rfl⟩ := h
        have hc : CR k w cx [v] [c] := by
          have hv0 : v = .p (.list .nil []) := by
            cases offs with
            | nil => contradiction
            | cons off r =>
              simp only [growL] at h1
              split at h1
              · rename_i ho
                cases off with
                | zero => simpa using ho
                | succ n => simp at ho
              · cases h1
          subst hv0
          cases hv with | p _ _ hv =>
          cases hv with
          | nilS =>
            refine ⟨rfl, fun i x hx => ?_, fun i x y hx hy => ?_⟩
            · cases i <;> simp at hx
              subst hx; rfl
            · cases i <;> simp at hx hy
              subst hx; subst hy
              exact .p _ _ (.nilS _ (by simp))
          | list _ _ b o cap sz cv hk hl hcap => exact absurd rfl hk
        obtain ⟨cx', g1, g2, g3, _⟩ := growL_sound fr hc h1
        exact ⟨cx', g1, g2, g3.2.2 0 x c rfl rfl⟩
      · cases h
end
end Go.AE

namespace Go.AE
open Go

section
variable {k : K} {X : XR} {w w' : World} {cx cx' : Cx} {fs fs' : FS} {a : Act}

theorem CR.mapO {g : V → Option V} (hg : ∀ {v v' : V} {c : Value}, VR k.sg w cx v c → g v = some v' → VR k.sg w cx v' c) {cs cs' : List V} {l : List Value} (h : CR k w cx cs l) (e : mapO g cs = some cs') : CR k w cx cs' l := by
  obtain ⟨h1, h2⟩ := mapO_spec e
  refine ⟨by rw [h.1, h1], h.2.1, fun i v c hv hc => ?_⟩
  have hi : i < cs.length := by rw [← h1]; exact (List.getElem?_eq_some_iff.1 hv).1
  have e0 : cs[i]? = some cs[i] := by simp [hi]
  exact hg (h.2.2 i _ c e0 hc) (h2 i _ v e0 hv)

theorem alloc_sound (ok : KOk k) (fr : FR k X w cx fs a) {t : Nat} {ti : TI} (hT : k.E.T t = some ti) {g : Bool} {offs : List Nat} {cs : List V} (h : growL g offs (ti.zero.map .p) fs = some (cs, fs')) :
    EN k X w cx (fs'.newObj g (.cells cs)).2 a (do pure (.value (← Instr.alloc t true (.tuple #[])))) (.ptr (fs'.newObj g (.cells cs)).1 0) := by
  obtain ⟨z, z1, z2, z3, z4⟩ := zero_CR (ok.ty t ti hT)
  obtain ⟨cx1, f1, f2, f3, _⟩ := growL_sound fr (z4 k w cx) h
  obtain ⟨g1, g2⟩ := new_cells f1 g t f3 (fun hg => by subst hg; exact growL_glob (by simp [List.all_map, Function.comp_def, glob1]) h)
  refine EN.val (c := .pointer (some ⟨w.heap.size, 0, none⟩)) ?_ g1 (f2.trans g2) (ptr_new g _ _)
  unfold Instr.alloc
  simp only [Sem.run_bind, z1, Result.andThen_ok]
  rfl

theorem run_box {P : Program} (t : Nat) (c : Value) : (Instr.box t c).run P w = .ok (.pointer (some ⟨w.heap.size, 0, none⟩)) (w.alloc (.cells ⟨c.cells.toList⟩ t (0, 0))) := rfl

theorem box_sound (fr : FR k X w cx fs a) {t : Nat} {g : Bool} {cs : List V} {c : Value} (h : CR k w cx cs c.cells.toList) (hgl : g = true → globO (.cells cs) = true) :
    EN k X w cx (fs.newObj g (.cells cs)).2 a (do pure (.value (← Instr.box t c))) (.ptr (fs.newObj g (.cells cs)).1 0) := by
  obtain ⟨g1, g2⟩ := new_cells fr g t h hgl
  exact EN.val (run_box t c) g1 g2 (ptr_new g _ _)

theorem imm_sound (fr : FR k X w cx fs a) {t : Nat} {ps : List PV} {c : Value} (h : CR k w cx (ps.map .p) c.cells.toList) :
    EN k X w cx fs a (do pure (.value (← Instr.box t c))) (.p (.pref ps 0)) := by
  have hs : w.heap.size ≤ (w.alloc (.cells ⟨c.cells.toList⟩ t (0, 0))).heap.size := by rw [alloc_size]; omega
  have hk := fun b (hb : b < w.heap.size) => alloc_old w (.cells ⟨c.cells.toList⟩ t (0, 0)) hb
  have le := fr.le_ext hs hk ⟨rfl, rfl⟩
  refine EN.val (run_box t c) (fr.ext hs hk ⟨rfl, rfl⟩) le (.p _ _ ?_)
  have h' := h.mono le
  have hlen : c.cells.toList.length = ps.length := by simpa using h.1
  refine .pref ps 0 w.heap.size 0 (fun i => c.cells.toList.getD i .nilIface) (fun i x hx => ?_) fun i x hx => ?_
  · have hi : i < c.cells.toList.length := by rw [hlen]; exact (List.getElem?_eq_some_iff.1 hx).1
    have hg : c.cells.toList[i]? = some (c.cells.toList.getD i .nilIface) := by simp [List.getD, List.getElem?_eq_getElem hi]
    refine ⟨.inr ⟨Nat.le_refl _, by rw [alloc_size]; omega⟩, ?_, h.2.1 i _ hg⟩
    rw [Nat.zero_add]
    have hn := alloc_new w (.cells ⟨c.cells.toList⟩ t (0, 0))
    simp only [cellAt, World.cell?, hn]; simpa using hg
  · have hi : i < c.cells.toList.length := by rw [hlen]; exact (List.getElem?_eq_some_iff.1 hx).1
    have hg : c.cells.toList[i]? = some (c.cells.toList.getD i .nilIface) := by simp [List.getD, List.getElem?_eq_getElem hi]
    have := h'.2.2 i (.p x) _ (by simp [hx]) hg
    cases this; assumption

theorem makeMap_sound (fr : FR k X w cx fs a) {t : Nat} : EN k X w cx (fs.newObj true (.map [])).2 a (do pure (.value (← Instr.makeMap t none))) (.map (fs.newObj true (.map [])).1) := by
  have hs : w.heap.size ≤ (w.alloc (.map #[] 0)).heap.size := by rw [alloc_size]; omega
  have hk := fun b (hb : b < w.heap.size) => alloc_old w (.map #[] 0) hb
  obtain ⟨ha, hb0, hv0⟩ := new_fresh fr true (.map [])
  have le := le_newBlk (b := w.heap.size) fr ha hs hk ⟨rfl, rfl⟩
  refine EN.val (c := .map (some w.heap.size)) (w' := w.alloc (.map #[] 0)) rfl (fr.newBlk true _ hs hk ⟨rfl, rfl⟩ (Nat.le_refl _) (by rw [alloc_size]; omega) ?_ fun _ => rfl) le ?_
  · exact ⟨hv0, w.heap.size, [], 0, by simp [Cx.newBlk], alloc_new w _, rfl, by simp, by simp, by simp⟩
  · refine .map _ _ (.inr rfl) fun b' hb' => ?_
    simpa [Cx.newBlk] using hb'
end
end Go.AE

namespace Go.AE
open Go

/-- A list's elements, at the head of cells. -/
def VE (k : K) (w : World) (cx : Cx) (sz : Nat) (es : List PV) (l : List Value) : Prop :=
  (∀ (i : Nat) (v : Value), l[i]? = some v → v.oneCell = true) ∧ (∀ (i : Nat) (x : PV), es[i]? = some x → x.cells.length = sz) ∧
    ∀ (i : Nat) (x : PV) (j : Nat) (c : PV), es[i]? = some x → x.cells[j]? = some c → ∃ v : Value, l[i * sz + j]? = some v ∧ Rep k.sg w cx.S c v

section
variable {k : K} {X : XR} {w w' : World} {cx cx' : Cx} {fs fs' : FS} {a : Act}

theorem VE.mono {sz : Nat} {es : List PV} {l : List Value} (h : VE k w cx sz es l) (le : Le k.base X w cx w' cx') : VE k w' cx' sz es l :=
  ⟨h.1, h.2.1, fun i x j c hx hc => by
    obtain ⟨v, h1, h2⟩ := h.2.2 i x j c hx hc
    exact ⟨v, h1, h2.mono le.smono le.cells⟩⟩

theorem new_vec (fr : FR k X w cx fs a) (g : Bool) {e : Nat} {te : TI} {es : List PV} {l : List Value} {cap stab : Nat} (hT : k.E.T e = some te) (h0 : 0 < te.size) (hl : cap * te.size = l.length) (hle : es.length ≤ cap)
    (hcap : cap ≤ maxLen) (hst : stab ≤ es.length) (h : VE k w cx te.size es l) :
    ∃ cx', FR k X (w.alloc (.cells ⟨l⟩ e (0, 0))) cx' (fs.newObj g (.vec (some e) es stab)).2 a ∧ Le k.base X w cx (w.alloc (.cells ⟨l⟩ e (0, 0))) cx' ∧
      VR k.sg (w.alloc (.cells ⟨l⟩ e (0, 0))) cx' (.vec (fs.newObj g (.vec (some e) es stab)).1 es.length) (.slice (some ⟨w.heap.size, 0, none⟩) es.length cap) := by
  have hs : w.heap.size ≤ (w.alloc (.cells ⟨l⟩ e (0, 0))).heap.size := by rw [alloc_size]; omega
  have hk := fun b (hb : b < w.heap.size) => alloc_old w (.cells ⟨l⟩ e (0, 0)) hb
  obtain ⟨ha, hb0, hv0⟩ := new_fresh fr g (.vec (some e) es stab)
  have hS : ∀ b i, (b = w.heap.size ∧ i < stab * te.size) → w.heap.size ≤ b ∧ b < (w.alloc (.cells ⟨l⟩ e (0, 0))).heap.size := by
    rintro b i ⟨rfl, _⟩
    exact ⟨Nat.le_refl _, by rw [alloc_size]; omega⟩
  have le := le_newVec (q0 := ⟨es.length, some w.heap.size, cap, te.size⟩) (S := fun b i => b = w.heap.size ∧ i < stab * te.size) fr ha hs hk ⟨rfl, rfl⟩ hS
  have h' := h.mono le
  refine ⟨_, fr.newVec g _ hs hk ⟨rfl, rfl⟩ hS (fun b hb => ?_) ?_, le, ?_⟩
  · simp only [Option.some.injEq] at hb; subst hb
    exact ⟨Nat.le_refl _, by rw [alloc_size]; omega⟩
  · refine ⟨hb0, _, by simp [Cx.newVec]; rfl, rfl, hst, ?_⟩
    refine ⟨e, te, l, rfl, hT, rfl, h0, alloc_new w _, hl, hle, hcap, h'.1, h'.2.1, h'.2.2, fun m hm => .inr ⟨rfl, hm⟩, fun m hm hS => ?_⟩
    rcases hS with hS | ⟨_, hS⟩
    · exact Nat.lt_irrefl _ (fr.slt _ _ hS)
    · simp only at hm; omega
  · refine .vec _ _ _ _ (.inr rfl) fun q hq => ?_
    have : (⟨es.length, some w.heap.size, cap, te.size⟩ : VC) = q := by simpa [Cx.newVec] using hq
    subst this
    exact ⟨Nat.le_refl _, fun _ => rfl⟩

theorem made_get {z : Value} {n i : Nat} {v : Value} {sz : Nat} (hsz : z.cells.toList.length = sz) (h0 : 0 < sz) (h : (madeCells z.cells n).toList[i]? = some v) : z.cells.toList[i % sz]? = some v := by
  have hsz' : z.cells.size = sz := by simpa using hsz
  have hm : i % sz < z.cells.size := by rw [hsz']; exact Nat.mod_lt _ h0
  simp only [madeCells, Array.toList_map, Array.toList_range, List.getElem?_map, Option.map_eq_some_iff] at h
  obtain ⟨j, hj, rfl⟩ := h
  have hi : i < n := by have := (List.getElem?_eq_some_iff.1 hj).1; simpa using this
  have : j = i := by rw [List.getElem?_range hi] at hj; simpa using hj.symm
  subst this
  rw [hsz']
  simp [getElem!_pos, hm]

theorem VE_made {z : Value} {p : PV} {sz len n : Nat} (hz : VR k.sg w cx (.p p) z) (hok : CR k w cx (p.cells.map .p) z.cells.toList) (hsz : p.cells.length = sz) (h0 : 0 < sz) (hn : len * sz ≤ n) :
    VE k w cx sz (List.replicate len p) (madeCells z.cells n).toList := by
  have hzl : z.cells.toList.length = sz := by rw [hok.1]; simpa using hsz
  refine ⟨fun i v hv => hok.2.1 _ v (made_get hzl h0 hv), fun i x hx => ?_, fun i x j c hx hc => ?_⟩
  · have := List.mem_of_getElem? hx
    rw [List.mem_replicate] at this
    rw [this.2, hsz]
  · have hi : i < len := by have := (List.getElem?_eq_some_iff.1 hx).1; simpa using this
    have := List.mem_of_getElem? hx
    rw [List.mem_replicate] at this
    rw [this.2] at hc
    have hj : j < sz := by rw [← hsz]; exact (List.getElem?_eq_some_iff.1 hc).1
    have hlt : i * sz + j < (madeCells z.cells n).toList.length := by
      simp only [Array.length_toList, size_madeCells]
      have : (i + 1) * sz ≤ len * sz := Nat.mul_le_mul_right _ hi
      rw [Nat.add_mul] at this
      omega
    refine ⟨_, List.getElem?_eq_getElem hlt, ?_⟩
    have hg := made_get hzl h0 (List.getElem?_eq_getElem hlt)
    have hm : (i * sz + j) % sz = j := by rw [Nat.mul_comm, Nat.mul_add_mod, Nat.mod_eq_of_lt hj]
    rw [hm] at hg
    have := hok.2.2 j (.p c) _ (by simp [hc]) hg
    cases this
    assumption

theorem makeSlice_sound (ok : KOk k) (fr : FR k X w cx fs a) {t e : Nat} {ti te : TI} (hT : k.E.T t = some ti) (hu : ti.und = .slice e) (hE : k.E.T e = some te) {k1 k2 : IntKind} {l c : Int} {g : Bool} (h0 : 0 ≤ l) (h1 : l ≤ c) (h2 : 0 < te.size)
    (h3 : c * te.bytes ≤ 1099511627776) (h4 : c ≤ 1099511627776) {p : PV} (hp : l.toNat = 0 ∨ zeroV te = some (.p p) ∧ p.cells.length = te.size) :
    EN k X w cx (fs.newObj g (.vec (some e) (List.replicate l.toNat p) 0)).2 a (do pure (.value (← Instr.makeSlice t (.int k1 l) (.int k2 c)))) (.vec (fs.newObj g (.vec (some e) (List.replicate l.toNat p) 0)).1 l.toNat) := by
  obtain ⟨i, d, z, hi, hd, hz, hs, e1, e2, e3, e4, e5, e6, e7⟩ := tiOf_spec (ok.ty e te hE)
  have hm := run_make (P := k.E.P) w t e i z (und_slice (ok.ty t ti hT) hu) hi hz k1 k2 l c h0 h1 (by rw [← e2]; rw [Int.mul_comm]; omega) (by omega)
  have hlc : l.toNat ≤ c.toNat := by omega
  have hve : VE k w cx te.size (List.replicate l.toNat p) (madeCells z.cells (c.toNat * i.size)).toList := by
    rcases hp with hp | ⟨hp1, hp2⟩
    · rw [hp]
      obtain ⟨z', z1, z2, z3, z4⟩ := zero_CR (ok.ty e te hE)
      have hzz : z' = z := by
        have := z1 w
        simp [zeroValue, run_typeInfo hi, hz] at this
        exact this.symm
      subst hzz
      exact ⟨fun i v hv => (z4 k w cx).2.1 _ v (made_get z3 h2 hv), fun i x hx => by simp at hx, fun i x j c hx => by simp at hx⟩
    · obtain ⟨z', z1, z2⟩ := zeroV_sound (k := k) (ok.ty e te hE) hp1
      have hzz : z' = z := by
        have := z1 w
        simp [zeroValue, run_typeInfo hi, hz] at this
        exact this.symm
      subst hzz
      have hok : CR k w cx (p.cells.map .p) z'.cells.toList := by
        obtain ⟨z'', y1, y2, y3, y4⟩ := zero_CR (ok.ty e te hE)
        have hzz : z'' = z' := by
          have := y1 w
          simp [zeroValue, run_typeInfo hi, hz] at this
          exact this.symm
        subst hzz
        have : p.cells = te.zero := by
          unfold zeroV at hp1
          split at hp1
          · simp only [Option.some.injEq, V.p.injEq] at hp1; subst hp1; rfl
          · split at hp1
            · rename_i x hx
              simp only [Option.some.injEq, V.p.injEq] at hp1; subst hp1
              rw [hx]
              rw [hx] at hs
              match hzc : z''.cells.toList with
              | [] => rw [hzc] at hs; simp [scals] at hs
              | v :: r =>
                rw [hzc] at hs
                simp only [scals] at hs
                split at hs
                · rename_i x' xs hx' hxs
                  simp only [Option.some.injEq, List.cons.injEq] at hs
                  obtain ⟨rfl, rfl⟩ := hs
                  exact (scal_rep (sg := k.sg) (w := w) (S := cx.S) hx').2.2.1
                · cases hs
            · cases hp1
        rw [this]
        exact y4 k w cx
      exact VE_made (z2 w cx) hok hp2 h2 (by rw [← e1]; exact Nat.mul_le_mul_right _ hlc)
  have hl : c.toNat * te.size = (madeCells z.cells (c.toNat * i.size)).toList.length := by
    rw [e1]; simp [size_madeCells]
  obtain ⟨cx', g1, g2, g3⟩ := new_vec fr g (e := e) (te := te) (es := List.replicate l.toNat p) (l := (madeCells z.cells (c.toNat * i.size)).toList) (cap := c.toNat) (stab := 0) hE h2 hl (by simpa using hlc) (by simp [maxLen]; omega) (Nat.zero_le _) hve
  simp only [List.length_replicate] at g3
  exact EN.val hm g1 g2 g3
end
end Go.AE

namespace Go.AE
open Go

section
variable {k : K} {X : XR} {w w' : World} {cx cx' : Cx} {fs fs' : FS} {a : Act}

theorem run_append_room_row {P : Program} (t tx ty e : TypeId) (i : TypeInfo) (ht : P.underlying t = some (.slice e)) (hi : P.info? e = some i)
    (g sLen sCap : Nat) (cur : Array Value) (hg : w.heap[g]? = some (.cells cur e (0, 0))) (x : Value) (n : Nat) (news : List Value) (hs : Src P i.size tx x n news w)
    (hroom : sLen + n ≤ sCap) (hfit : sLen * i.size + news.length ≤ cur.size) :
    (Builtin.append_ #[t, tx] ty #[.slice (some ⟨g, 0, none⟩) sLen sCap, x]).run P w =
      .ok (.slice (some ⟨g, 0, none⟩) (sLen + n) sCap) (w.setRow g (cur.toList.take (sLen * i.size) ++ news ++ cur.toList.drop (sLen * i.size + news.length)).toArray) := by
  have hst := run_storeCells_at P g (sLen * i.size) e news 0 cur w hg (by simpa using hfit) hs.one
  simp only [Nat.add_zero] at hst
  rcases hs.kind with ⟨e', hk⟩ | hk <;> simp [Builtin.append_, run_underlying ht, run_underlying hk, sizeOf, typeInfo, hi, hs.len, hroom, hs.cells, Addr.add_lit, hst]

theorem ER.append {sz : Nat} {es ys : List PV} {l m : List Value} (h : ER k w cx sz es l) (g : ER k w cx sz ys m) : ER k w cx sz (es ++ ys) (l ++ m) := by
  obtain ⟨h1, h2, h3, h4⟩ := h
  obtain ⟨g1, g2, g3, g4⟩ := g
  refine ⟨by simp [h1, g1, Nat.add_mul], fun i v hv => ?_, fun i x hx => ?_, fun i x j c v hx hc hv => ?_⟩
  · rw [List.getElem?_append] at hv
    split at hv
    · exact h2 _ _ hv
    · exact g2 _ _ hv
  · rw [List.getElem?_append] at hx
    split at hx
    · exact h3 _ _ hx
    · exact g3 _ _ hx
  · rw [List.getElem?_append] at hx
    split at hx
    · rename_i hi
      have hj : j < sz := by rw [← h3 i x hx]; exact (List.getElem?_eq_some_iff.1 hc).1
      have hlt : i * sz + j < l.length := by
        rw [h1]
        have : (i + 1) * sz ≤ es.length * sz := Nat.mul_le_mul_right _ hi
        rw [Nat.add_mul] at this; omega
      rw [List.getElem?_append_left hlt] at hv
      exact h4 i x j c v hx hc hv
    · rename_i hi
      have hge : l.length ≤ i * sz + j := by
        rw [h1]
        have : es.length * sz ≤ i * sz := Nat.mul_le_mul_right _ (by omega)
        omega
      rw [List.getElem?_append_right hge] at hv
      have : i * sz + j - l.length = (i - es.length) * sz + j := by
        rw [h1, Nat.sub_mul]
        have : es.length * sz ≤ i * sz := Nat.mul_le_mul_right _ (by omega)
        omega
      rw [this] at hv
      exact g4 _ x j c v hx hc hv

theorem ER.toVE {sz : Nat} {es : List PV} {l rest : List Value} (h : ER k w cx sz es l) (hr : ∀ v ∈ rest, v.oneCell = true) : VE k w cx sz es (l ++ rest) := by
  refine ⟨fun i v hv => ?_, h.2.2.1, fun i x j c hx hc => ?_⟩
  · rw [List.getElem?_append] at hv
    split at hv
    · exact h.2.1 _ _ hv
    · exact hr v (List.mem_of_getElem? hv)
  · have hi : i < es.length := (List.getElem?_eq_some_iff.1 hx).1
    have hj : j < sz := by rw [← h.2.2.1 i x hx]; exact (List.getElem?_eq_some_iff.1 hc).1
    have hlt : i * sz + j < l.length := by
      rw [h.1]
      have : (i + 1) * sz ≤ es.length * sz := Nat.mul_le_mul_right _ hi
      rw [Nat.add_mul] at this; omega
    refine ⟨l[i * sz + j], by rw [List.getElem?_append_left hlt]; simp [hlt], ?_⟩
    exact h.2.2.2 i x j c _ hx hc (by simp [hlt])

theorem VE.toER {sz n : Nat} {es : List PV} {l : List Value} (h : VE k w cx sz es l) (hn : n = es.length * sz) (hl : n ≤ l.length) : ER k w cx sz es (l.take n) := by
  refine ⟨by simp [hn ▸ hl, hn], fun i v hv => ?_, h.2.1, fun i x j c v hx hc hv => ?_⟩
  · rw [List.getElem?_take] at hv
    split at hv
    · exact h.1 _ _ hv
    · cases hv
  · rw [List.getElem?_take] at hv
    split at hv
    · obtain ⟨v', h1, h2⟩ := h.2.2 i x j c hx hc
      rw [h1] at hv
      simp only [Option.some.injEq] at hv; subst hv
      exact h2
    · cases hv

theorem sameSize_spec {n : Nat} {es : List PV} (h : sameSize n es = true) : ∀ (i : Nat) (x : PV), es[i]? = some x → x.cells.length = n := by
  induction es with
  | nil => intro i x hx; simp at hx
  | cons e r ih =>
    simp only [sameSize, Bool.and_eq_true, beq_iff_eq] at h
    intro i x hx
    cases i with
    | zero => simp at hx; subst hx; exact h.1
    | succ i => exact ih h.2 i x (by simpa using hx)

theorem oneCell'_of {v : Value} (h : v.oneCell = true) : v.oneCell' = true := by
  cases v <;> first | rfl | (simp [Value.oneCell] at h)

/-- What lies behind a list. -/
theorem list_cells {kd : LK} {ys : List PV} {c : Value} {sz : Nat} (h : Rep k.sg w cx.S (.list kd ys) c) (hsz : sameSize sz ys = true) (h0 : 0 < sz) :
    ∃ ao cap news, c = .slice ao ys.length cap ∧ ys.length ≤ cap ∧ (kd = .lit → cap = ys.length) ∧ (kd = .nil → c = .slice none 0 0) ∧ ER k w cx sz ys news ∧
      ((ao = none ∧ ys = [] ∧ cap = 0) ∨ ∃ ad, ao = some ad ∧ ∀ j u, news[j]? = some u → w.cell? (ad.add j) = some u) := by
  have hs := sameSize_spec hsz
  cases h with
  | nilS _ hk => exact ⟨none, 0, [], rfl, Nat.le_refl _, fun _ => rfl, fun _ => rfl, ⟨by simp, by simp, by simp, by simp⟩, .inl ⟨rfl, rfl, rfl⟩⟩
  | list _ _ b o cap sz' cv hk hl hcap hsz' hc hr =>
    have hss : ∀ (i : Nat) (x : PV), ys[i]? = some x → sz' = sz := fun i x hx => by rw [← hsz' i x hx, hs i x hx]
    have hget : ∀ (j : Nat) (u : Value), ((List.range (ys.length * sz)).map fun m => cv (m / sz) (m % sz))[j]? = some u → ∃ x c, ys[j / sz]? = some x ∧ x.cells[j % sz]? = some c ∧ u = cv (j / sz) (j % sz) := by
      intro j u hu
      simp only [List.getElem?_map, Option.map_eq_some_iff] at hu
      obtain ⟨m, hm, rfl⟩ := hu
      have hj : j < ys.length * sz := by have := (List.getElem?_eq_some_iff.1 hm).1; simpa using this
      have : m = j := by rw [List.getElem?_range hj] at hm; simpa using hm.symm
      subst this
      have hd : m / sz < ys.length := by rw [Nat.div_lt_iff_lt_mul h0]; exact hj
      have hx : ys[m / sz]? = some ys[m / sz] := by simp [hd]
      have hml : m % sz < ys[m / sz].cells.length := by rw [hs _ _ hx]; exact Nat.mod_lt _ h0
      exact ⟨_, _, hx, List.getElem?_eq_getElem hml, rfl⟩
    refine ⟨some ⟨b, o, none⟩, cap, (List.range (ys.length * sz)).map fun m => cv (m / sz) (m % sz), rfl, hcap, hl, fun e => absurd e hk, ⟨by simp, ?_, hs, ?_⟩, .inr ⟨_, rfl, ?_⟩⟩
    · intro j u hu
      obtain ⟨x, c, hx, hcc, rfl⟩ := hget j u hu
      exact (hc _ x _ c hx hcc).2.2
    · intro i x j c v hx hcc hv
      obtain ⟨x', c', hx', hcc', rfl⟩ := hget _ v hv
      have hj : j < sz := by rw [← hs i x hx]; exact (List.getElem?_eq_some_iff.1 hcc).1
      have hd : (i * sz + j) / sz = i := by rw [Nat.mul_comm, Nat.mul_add_div h0, Nat.div_eq_of_lt hj, Nat.add_zero]
      have hm : (i * sz + j) % sz = j := by rw [Nat.mul_comm, Nat.mul_add_mod, Nat.mod_eq_of_lt hj]
      rw [hd, hm]
      exact hr i x j c hx hcc
    · intro j u hu
      obtain ⟨x, c, hx, hcc, rfl⟩ := hget j u hu
      have := (hc _ x _ c hx hcc).2.1
      rw [hss _ x hx] at this
      rw [Addr_add]
      have e : j / sz * sz + j % sz = j := by rw [Nat.mul_comm]; exact Nat.div_add_mod j sz
      rw [e] at this
      exact this

theorem appKind_spec (ok : KOk k) {tx : Nat} (hk : appKind k.E tx = true) : (∃ e', k.E.P.underlying tx = some (.slice e')) ∨ k.E.P.underlying tx = some .string := by
  unfold appKind at hk
  split at hk
  · rename_i ti hti
    have ht := ok.ty tx ti hti
    unfold isSliceOrStr at hk
    split at hk
    · rename_i hu; exact .inr (und_str ht hu)
    · rename_i e hu; exact .inl ⟨e, und_slice ht hu⟩
    · cases hk
  · cases hk

/-- What is appended. -/
theorem moreOf_src (ok : KOk k) (fr : FR k X w cx fs a) {tx : Nat} (hk : appKind k.E tx = true) {y : V} {c : Value} (hy : VR k.sg w cx y c) {ys : List PV} (h : moreOf fs y = some ys) {sz : Nat} (hsz : sameSize sz ys = true) (h0 : 0 < sz) :
    ∃ news, ER k w cx sz ys news ∧ Src k.E.P sz tx c ys.length news w := by
  have hkind := appKind_spec ok hk
  unfold moreOf at h
  split at h
  · rename_i kd es he
    simp only [Option.some.injEq] at h; subst h
    have hv := expS_sound fr hy he
    cases hv with | p _ _ hv =>
    obtain ⟨ao, cap, news, rfl, hcap, _, _, hER, hmem⟩ := list_cells hv hsz h0
    refine ⟨news, hER, ?_⟩
    have one : ∀ u ∈ news, u.oneCell' = true := fun u hu => by
      obtain ⟨i, hi⟩ := List.mem_iff_getElem?.1 hu
      exact oneCell'_of (hER.2.1 i u hi)
    rcases hmem with ⟨rfl, hnil, rfl⟩ | ⟨ad, rfl, hc⟩
    · subst hnil
      have : news = [] := List.eq_nil_of_length_eq_zero (by simpa using hER.1)
      subst this
      exact ⟨hkind, fun _ => rfl, run_firstCells_none w sz 0 0 0, run_firstCells_none w.drew sz 0 0 0, by simp, one⟩
    · exact ⟨hkind, fun _ => rfl, run_firstCells_some w sz _ ad _ cap news hER.1 hc, run_firstCells_some w.drew sz _ ad _ cap news hER.1 (by simpa using hc), hER.1, one⟩
  · rename_i s he
    simp only [Option.some.injEq] at h; subst h
    have hv := expS_sound fr hy he
    cases hv with | p _ _ hv =>
    cases hv with | str b _ hb =>
    subst hb
    have hlen : (b.data.toList.map fun x => PV.int .u8 x.toNat).length = b.size := by simp
    have hs1 : b.data.toList = [] ∨ sz = 1 := by
      cases hbl : b.data.toList with
      | nil => exact .inl rfl
      | cons x r =>
        rw [hbl] at hsz
        simp only [List.map_cons, sameSize, Bool.and_eq_true, beq_iff_eq] at hsz
        exact .inr hsz.1.symm
    have hmul : b.size * sz = b.size := by
      rcases hs1 with h | h
      · have : b.size = 0 := by have := congrArg List.length h; simpa using this
        rw [this, Nat.zero_mul]
      · rw [h, Nat.mul_one]
    have hf : ∀ w' : World, (Builtin.firstCells sz b.size (.string b)).run k.E.P w' = .ok (byteCells b).toArray w' := fun w' => firstCells_string b w'
    refine ⟨byteCells b, ⟨by rw [byteCells_length, hlen, hmul], fun i v hv => ?_, sameSize_spec hsz, fun i x j c v hx hc hv => ?_⟩, ⟨hkind, fun _ => by rw [hlen]; rfl, by rw [hlen]; exact hf w, by rw [hlen]; exact hf w.drew, by rw [byteCells_length, hlen, hmul], fun u hu => ?_⟩⟩
    · unfold byteCells at hv
      simp only [List.getElem?_map, Option.map_eq_some_iff] at hv
      obtain ⟨x, _, rfl⟩ := hv
      rfl
    · simp only [List.getElem?_map, Option.map_eq_some_iff] at hx
      obtain ⟨b0, hb0, rfl⟩ := hx
      have hj : j = 0 := by cases j with | zero => rfl | succ j => simp [PV.cells] at hc
      subst hj
      simp only [PV.cells, List.getElem?_cons_zero, Option.some.injEq] at hc
      subst hc
      have h1 : sz = 1 := hs1.resolve_left (by intro e; rw [e] at hb0; simp at hb0)
      subst h1
      unfold byteCells at hv
      rw [Nat.mul_one, Nat.add_zero] at hv
      simp only [List.getElem?_map, Option.map_eq_some_iff] at hv
      obtain ⟨b1, hb1, rfl⟩ := hv
      rw [hb0] at hb1
      simp only [Option.some.injEq] at hb1; subst hb1
      exact .int _ _
    · obtain ⟨_, _, rfl⟩ := List.mem_map.1 hu
      rfl
  · cases h

/-- A new row, of an old and of what is appended. -/
theorem append_new (ok : KOk k) {t tx ty e : Nat} {te : TI} (ht : k.E.P.underlying t = some (.slice e)) (hE : k.E.T e = some te) (h0 : 0 < te.size) {es ys : List PV} {olds news : List Value} {base : Option Addr} {cap : Nat} {c : Value}
    (he : ER k w cx te.size es olds) (hn : ER k w cx te.size ys news) (hs : Src k.E.P te.size tx c ys.length news w)
    (hold : (Builtin.firstCells te.size es.length (.slice base es.length cap)).run k.E.P w.drew = .ok olds.toArray w.drew) (hg : cap < es.length + ys.length)
    (hb : (es.length + ys.length) * te.bytes ≤ 1099511627776) (hl : es.length + ys.length ≤ 1099511627776) :
    ∃ (nc : Nat) (rest : List Value), (Builtin.append_ #[t, tx] ty #[.slice base es.length cap, c]).run k.E.P w = .ok (.slice (some ⟨w.heap.size, 0, none⟩) (es.length + ys.length) nc) (w.drew.alloc (.cells ⟨(olds ++ news) ++ rest⟩ e)) ∧
      nc * te.size = (olds ++ news ++ rest).length ∧ es.length + ys.length ≤ nc ∧ nc ≤ maxLen ∧ VE k w cx te.size (es ++ ys) (olds ++ news ++ rest) := by
  obtain ⟨i, d, z, hi, hd, hz, hzs, e1, e2, e3, e4, e5, e6, e7⟩ := tiOf_spec (ok.ty e te hE)
  obtain ⟨z', z1, z2, z3, z4⟩ := zero_CR (ok.ty e te hE)
  have hzz : z' = z := by
    have := z1 w
    simp [zeroValue, run_typeInfo hi, hz] at this
    exact this.symm
  subst hzz
  have hzsz : z'.cells.size = te.size := by simpa using z3
  have hr := run_append_grow_src (P := k.E.P) w t tx ty e i z' ht hi hz base es.length cap olds (by rw [← e1]; exact hold) c ys.length news (by rw [← e1]; exact hs) hg (by omega)
    (growslice_fits hg (by rw [← e2]; omega))
  have hge := grownCap_ge w (es.length + ys.length) cap e
  refine ⟨grownCap w (es.length + ys.length) cap e, (Builtin.zeroCells z'.cells (grownCap w (es.length + ys.length) cap e - (es.length + ys.length))).toList, ?_, ?_, hge, grownCap_le_maxLen _ _ _ _ (by simp [maxLen]; omega), (he.append hn).toVE ?_⟩
  · have : (olds ++ news).toArray ++ Builtin.zeroCells z'.cells (grownCap w (es.length + ys.length) cap e - (es.length + ys.length)) = ⟨olds ++ news ++ (Builtin.zeroCells z'.cells (grownCap w (es.length + ys.length) cap e - (es.length + ys.length))).toList⟩ := by
      apply Array.ext'; simp
    rw [hr, this]
  · simp only [List.length_append, he.1, hn.1, Array.length_toList, size_zeroCells, hzsz, ← Nat.add_mul]
    congr 1
    omega
  · intro v hv
    obtain ⟨j, hj⟩ := List.mem_iff_getElem?.1 hv
    have : Builtin.zeroCells z'.cells (grownCap w (es.length + ys.length) cap e - (es.length + ys.length)) = madeCells z'.cells ((grownCap w (es.length + ys.length) cap e - (es.length + ys.length)) * z'.cells.size) := rfl
    rw [this] at hj
    exact (z4 k w cx).2.1 _ v (made_get z3 h0 hj)
theorem drew_heap (w : World) : w.drew.heap = w.heap := rfl

theorem run_append_nothing' {P : Program} (t tx ty e : Nat) (ht : P.underlying t = some (.slice e)) {i : TypeInfo} (hi : P.info? e = some i) {sz : Nat} (hsz : i.size = sz) {c : Value} (hs : Src P sz tx c 0 [] w) {base : Option Addr} {n cap : Nat} (hle : n ≤ cap) :
    (Builtin.append_ #[t, tx] ty #[.slice base n cap, c]).run P w = .ok (.slice base n cap) w := by
  subst hsz
  have hc := hs.cells
  rcases hs.kind with ⟨e', hk⟩ | hk <;> cases base <;> simp [Builtin.append_, run_underlying ht, run_underlying hk, sizeOf, typeInfo, hi, hs.len, hle, hc, storeCells]

/-- A slice that grows goes on in the row that it has. -/
theorem vec_in (fr : FR k X w cx fs a) {r : Ref} {et : Option Nat} {es ys : List PV} {q : VC} {b e : Nat} {te : TI} {l news : List Value} (hal : cx.al r) (ho : fs.obj r = some (.vec et es es.length)) (hq : cx.vec r = some q) (hqb : q.blk = some b)
    (hE : k.E.T e = some te) (hn : ER k w cx te.size ys news) (hh : w.heap[b]? = some (.cells ⟨l⟩ e (0, 0))) (hroom : es.length + ys.length ≤ q.cap) {stab : Nat} (hst : stab ≤ es.length + ys.length) (hst' : es.length ≤ stab) :
    ∃ cx', FR k X (w.setRow b (l.take (es.length * te.size) ++ news ++ l.drop (es.length * te.size + news.length)).toArray) cx' (fs.setObj r (.vec (some e) (es ++ ys) stab)) a ∧
      Le k.base X w cx (w.setRow b (l.take (es.length * te.size) ++ news ++ l.drop (es.length * te.size + news.length)).toArray) cx' ∧
      VR k.sg (w.setRow b (l.take (es.length * te.size) ++ news ++ l.drop (es.length * te.size + news.length)).toArray) cx' (.vec r (es.length + ys.length)) (.slice (some ⟨b, 0, none⟩) (es.length + ys.length) q.cap) := by
  have hor := fr.obj r _ ho hal
  obtain ⟨hblk, q', hq', hlen, hsl, hm⟩ := hor
  rw [hq] at hq'
  simp only [Option.some.injEq] at hq'; subst hq'
  rw [hqb] at hm
  simp only at hm
  obtain ⟨e', te', l', h1, h2, h3, h4, h5, h6, h7, h8, h9, h10, h11, h12, h13⟩ := hm
  rw [hh] at h5
  simp only [Option.some.injEq, Go.Obj.cells.injEq, Array.mk.injEq] at h5
  obtain ⟨rfl, rfl, _⟩ := h5
  rw [hE] at h2
  simp only [Option.some.injEq] at h2; subst h2
  have hown : cx.own r = some b := by simp [Cx.own, hblk, hq, hqb]
  obtain ⟨hb1, hb2, hb3⟩ := fr.own1 r b hown
  have hfit : es.length * te.size + news.length ≤ l.length := by
    rw [hn.1, ← Nat.add_mul, ← h6, h3]
    exact Nat.mul_le_mul_right _ hroom
  generalize hl2 : l.take (es.length * te.size) ++ news ++ l.drop (es.length * te.size + news.length) = l2
  have hll : l2.length = l.length := by
    rw [← hl2]; simp only [List.length_append, List.length_take, List.length_drop]; omega
  have hlow : ∀ i, i < es.length * te.size → l2[i]? = l[i]? := by
    intro i hi
    rw [← hl2, List.append_assoc, List.getElem?_append_left (by simp only [List.length_take]; omega), List.getElem?_take]
    simp [hi]
  have hsz : (w.setRow b l2.toArray).heap.size = w.heap.size := by simp
  have hot : ∀ b', b' ≠ b → (w.setRow b l2.toArray).heap[b']? = w.heap[b']? := fun b' hb' => setRow_other w b b' _ hb'
  have hat : (w.setRow b l2.toArray).heap[b]? = some (.cells l2.toArray e (0, 0)) := setRow_heap w b _ _ e _ hh
  have le : Le k.base X w cx (w.setRow b l2.toArray) { cx with vec := fun r' => if r' = r then some { q with len := es.length + ys.length } else cx.vec r', S := fun b' i => cx.S b' i ∨ (b' = b ∧ i < stab * te.size) } := by
    refine ⟨by rw [hsz]; exact Nat.le_refl _, fun b' hb' => hot b' fun e => ?_, fun b' i v hS hv => ?_, fun _ _ h => .inl h, fun b' i h => ?_, fun _ h => h, fun _ _ _ h => h, fun r' q' hr' hq' => ?_, ⟨rfl, rfl⟩⟩
    · subst e
      rcases hb' with hb' | hb'
      · omega
      · exact hb3 hb'
    · by_cases hbb : b' = b
      · subst hbb
        have hi : i < es.length * te.size := by
          rw [← h3]
          exact Nat.lt_of_not_le fun hle => h13 i hle hS
        simp only [cellAt, World.cell?, hat, hh] at hv ⊢
        rw [← hv]
        have := hlow i hi
        simpa using this
      · rw [cellAt_of_heap (hot b' hbb), hv]
    · rcases h with h | ⟨rfl, _⟩
      · exact .inl h
      · exact .inr hb3
    · simp only at hq'
      by_cases hr : r' = r
      · subst hr
        simp only [if_true, Option.some.injEq] at hq'
        subst hq'
        refine ⟨q, hq, by simp only; omega, fun e => ?_⟩
        simp only at e
        rw [e]
      · simp only [hr, if_false] at hq'
        exact ⟨q', hq', Nat.le_refl _, fun _ => rfl⟩
  refine ⟨_, fr.upd r (.vec (some e) (es ++ ys) stab) le (fun r' hr' => ⟨rfl, by simp [hr']⟩) (fun r' => ⟨.inl, fun h => h.elim id fun e => e ▸ hal⟩) (obj_set fs r _ (by rw [ho]; rfl)) ?_ ?_ ?_ ?_ (fun h => (fr.res _ h).1 hal) ?_ ?_ ?_ ?_, le, ?_⟩
  · cases r <;> exact Nat.le_refl _
  · cases r <;> exact Nat.le_refl _
  · cases r <;> rfl
  · cases r
    · exact fr.obL _ _ ho
    · exact fr.obG _ _ ho
  · intro b' hb' hne
    have hbb : b' ≠ b := fun e => hne (e ▸ hown)
    exact ⟨hot b' hbb, fun i => ⟨fun h => h.resolve_right fun h => hbb h.1, .inl⟩⟩
  · intro b' i h
    rw [hsz]
    rcases h with h | ⟨rfl, _⟩
    · exact fr.slt b' i h
    · exact hb2
  · intro b' hb'
    have : b' = b := by
      have : q.blk = some b' := by simpa [Cx.own, hblk] using hb'
      rw [hqb] at this; simpa using this.symm
    subst this
    exact ⟨hb1, by rw [hsz]; exact hb2, hb3, .inl hown⟩
  · have hve : VE k w cx te.size (es ++ ys) l2 := by
      rw [← hl2]
      have he : ER k w cx te.size es (l.take (es.length * te.size)) := VE.toER ⟨h9, fun i x hx => by rw [← h3]; exact h10 i x hx, fun i x j c hx hc => by rw [← h3]; exact h11 i x j c hx hc⟩ rfl (by omega)
      exact (he.append hn).toVE fun v hv => by
        obtain ⟨j, hj⟩ := List.mem_iff_getElem?.1 (List.mem_of_mem_drop hv)
        exact h9 j v hj
    have hve' := hve.mono le
    refine ⟨hblk, { q with len := es.length + ys.length }, by simp, by simp, by simpa using hst, ?_⟩
    simp only [hqb]
    refine ⟨e, te, l2, rfl, hE, h3, h4, hat, by rw [hll]; exact h6, by simpa using hroom, h8, hve'.1, fun i x hx => by rw [h3]; exact hve'.2.1 i x hx, fun i x j c hx hc => by rw [h3]; exact hve'.2.2 i x j c hx hc, fun m hm => .inr ⟨trivial, by rw [← h3]; exact hm⟩, fun m hm hS => ?_⟩
    rcases hS with hS | ⟨_, hS⟩
    · refine h13 m ?_ hS
      exact Nat.le_trans (Nat.mul_le_mul_right _ hst') hm
    · rw [← h3] at hS; omega
  · refine .vec _ _ _ _ hal fun q' hq' => ?_
    have : ({ q with len := es.length + ys.length } : VC) = q' := by simpa using hq'
    subst this
    exact ⟨Nat.le_refl _, fun _ => by simp [VC.val, hqb]⟩

end
end Go.AE

namespace Go.AE
open Go

section
variable {k : K} {X : XR} {w w' : World} {cx cx' : Cx} {fs fs' : FS} {a : Act}

/-- A slice that grows goes on in a new row. -/
theorem vec_out (fr : FR k X w cx fs a) {r : Ref} {et : Option Nat} {es es2 : List PV} {e : Nat} {te : TI} {l : List Value} {cap stab : Nat} (hal : cx.al r) (ho : fs.obj r = some (.vec et es es.length))
    (hE : k.E.T e = some te) (h0 : 0 < te.size) (hl : cap * te.size = l.length) (hle : es2.length ≤ cap) (hcap : cap ≤ maxLen) (hst : stab ≤ es2.length) (hlt : es.length < es2.length) (h : VE k w cx te.size es2 l) :
    ∃ cx', FR k X (w.alloc (.cells ⟨l⟩ e (0, 0))) cx' (fs.setObj r (.vec (some e) es2 stab)) a ∧ Le k.base X w cx (w.alloc (.cells ⟨l⟩ e (0, 0))) cx' ∧
      VR k.sg (w.alloc (.cells ⟨l⟩ e (0, 0))) cx' (.vec r es2.length) (.slice (some ⟨w.heap.size, 0, none⟩) es2.length cap) := by
  obtain ⟨hblk, q, hq, hlen, hsl, _⟩ := fr.obj r _ ho hal
  have hsz := alloc_size w (.cells ⟨l⟩ e (0, 0))
  have hk := fun b (hb : b < w.heap.size) => alloc_old w (.cells ⟨l⟩ e (0, 0)) hb
  have le : Le k.base X w cx (w.alloc (.cells ⟨l⟩ e (0, 0))) { cx with vec := fun r' => if r' = r then some ⟨es2.length, some w.heap.size, cap, te.size⟩ else cx.vec r', S := fun b' i => cx.S b' i ∨ (b' = w.heap.size ∧ i < stab * te.size) } := by
    refine ⟨by omega, fun b hb => hk b (hb.elim (fun hb => Nat.lt_of_lt_of_le hb fr.size) (fr.xlt b)), fun b i v hS hv => by rw [cellAt_of_heap (hk b (fr.slt b i hS)), hv], fun _ _ h => .inl h, fun b i h => ?_, fun _ h => h, fun _ _ _ h => h, fun r' q' hr' hq' => ?_, ⟨rfl, rfl⟩⟩
    · rcases h with h | ⟨rfl, _⟩
      · exact .inl h
      · exact .inr fun hx => Nat.lt_irrefl _ (fr.xlt _ hx)
    · simp only at hq'
      by_cases hr : r' = r
      · subst hr
        simp only [if_true, Option.some.injEq] at hq'
        subst hq'
        refine ⟨q, hq, by simp only; omega, fun e => ?_⟩
        simp only at e
        omega
      · simp only [hr, if_false] at hq'
        exact ⟨q', hq', Nat.le_refl _, fun _ => rfl⟩
  refine ⟨_, fr.upd r (.vec (some e) es2 stab) le (fun r' hr' => ⟨rfl, by simp [hr']⟩) (fun r' => ⟨.inl, fun h => h.elim id fun e => e ▸ hal⟩) (obj_set fs r _ (by rw [ho]; rfl)) ?_ ?_ ?_ ?_ (fun h => (fr.res _ h).1 hal) ?_ ?_ ?_ ?_, le, ?_⟩
  · cases r <;> exact Nat.le_refl _
  · cases r <;> exact Nat.le_refl _
  · cases r <;> rfl
  · cases r
    · exact fr.obL _ _ ho
    · exact fr.obG _ _ ho
  · intro b' hb' _
    exact ⟨hk b' hb', fun i => ⟨fun h => h.resolve_right fun h => by have := h.1; omega, .inl⟩⟩
  · intro b' i h
    rcases h with h | ⟨rfl, _⟩
    · have := fr.slt b' i h; omega
    · omega
  · intro b' hb'
    have : b' = w.heap.size := by
      have : some w.heap.size = some b' := by simpa [Cx.own, hblk] using hb'
      simpa using this.symm
    subst this
    exact ⟨fr.size, by omega, fun hx => Nat.lt_irrefl _ (fr.xlt _ hx), .inr (Nat.le_refl _)⟩
  · have h' := h.mono le
    refine ⟨hblk, ⟨es2.length, some w.heap.size, cap, te.size⟩, by simp, rfl, hst, ?_⟩
    refine ⟨e, te, l, rfl, hE, rfl, h0, alloc_new w _, hl, hle, hcap, h'.1, h'.2.1, h'.2.2, fun m hm => .inr ⟨rfl, hm⟩, fun m hm hS => ?_⟩
    rcases hS with hS | ⟨_, hS⟩
    · exact Nat.lt_irrefl _ (fr.slt _ _ hS)
    · simp only at hm; omega
  · refine .vec _ _ _ _ hal fun q' hq' => ?_
    have : (⟨es2.length, some w.heap.size, cap, te.size⟩ : VC) = q' := by simpa using hq'
    subst this
    exact ⟨Nat.le_refl _, fun _ => rfl⟩

theorem append_sound (ok : KOk k) (fr : FR k X w cx fs a) {g hole : Bool} {t tx ty : Nat} {x y v : V} {c d : Value} (hx : VR k.sg w cx x c) (hy : VR k.sg w cx y d) (hk : appKind k.E tx = true)
    (h : appendV k.E fs g hole t x y = some (v, fs')) :
    ∃ c' w' cx', (Builtin.append_ #[t, tx] ty #[c, d]).run k.E.P w = .ok c' w' ∧ FR k X w' cx' fs' a ∧ Le k.base X w cx w' cx' ∧ VR k.sg w' cx' v c' := by
  obtain ⟨frd, led⟩ := fr.same (w' := w.drew) rfl ⟨rfl, rfl⟩
  unfold appendV at h
  split at h
  · rename_i ti ys hti hmore
    split at h
    · rename_i e hu
      have ht := und_slice (ok.ty t ti hti) hu
      split at h
      · cases h
      rename_i te hE
      obtain ⟨i, _, _, hi, _, _, _, e1, _⟩ := tiOf_spec (ok.ty e te hE)
      split at h
      · rename_i r n
        split at h
        · rename_i sz es stab ho
          split at h
          · rename_i hc
            obtain ⟨rfl, rfl, hsz, h0, hby, hmx, hss⟩ := hc
            simp only [Option.some.injEq, Prod.mk.injEq] at h
            obtain ⟨rfl, hfs⟩ := h
            obtain ⟨news, hER, hsrc⟩ := moreOf_src ok fr hk hy hmore hss h0
            cases hx with | vec _ _ ad cap hal hqq =>
            have hor := fr.obj r _ ho hal
            obtain ⟨hblk, q, hq, hlen, hsl, hm⟩ := hor
            obtain ⟨_, hqv⟩ := hqq q hq
            have hqv := hqv hlen
            simp only [VC.val, Value.slice.injEq] at hqv
            obtain ⟨hqa, _, hqc⟩ := hqv
            subst hqa; subst hqc
            have hle : es.length ≤ q.cap := by
              cases hqb : q.blk with
              | none => rw [hqb] at hm; rw [hm.1]; exact Nat.zero_le _
              | some b =>
                rw [hqb] at hm
                obtain ⟨_, _, _, _, _, _, _, _, _, h7, _⟩ := hm
                exact h7
            cases hys : ys with
            | nil =>
              subst hys
              simp only [List.isEmpty_nil, if_true] at hfs
              subst hfs
              have hn : news = [] := List.eq_nil_of_length_eq_zero (by simpa using hER.1)
              subst hn
              refine ⟨_, w, cx, run_append_nothing' t tx ty e ht hi e1.symm hsrc hle, fr, Le.refl _ _ _ _, ?_⟩
              refine .vec _ _ _ _ hal fun q' hq' => ?_
              rw [hq] at hq'
              simp only [Option.some.injEq] at hq'; subst hq'
              exact ⟨by simp; omega, fun _ => by simp [VC.val, hlen]⟩
            | cons y0 ys0 =>
              rw [← hys]
              have hne : ys.isEmpty = false := by rw [hys]; rfl
              have hpos : 0 < ys.length := by rw [hys]; simp
              rw [hne] at hfs
              simp only [Bool.false_eq_true, if_false] at hfs
              subst hfs
              have hstab : (if hole = true then es.length else es.length + ys.length) ≤ es.length + ys.length ∧ es.length ≤ (if hole = true then es.length else es.length + ys.length) := by split <;> omega
              have out : ∀ olds : List Value, ER k w cx te.size es olds → (Builtin.firstCells te.size es.length (.slice (q.blk.map fun b => ⟨b, 0, none⟩) es.length q.cap)).run k.E.P w.drew = .ok olds.toArray w.drew → q.cap < es.length + ys.length →
                  ∃ c' w' cx', (Builtin.append_ #[t, tx] ty #[.slice (q.blk.map fun b => ⟨b, 0, none⟩) es.length q.cap, d]).run k.E.P w = .ok c' w' ∧
                    FR k X w' cx' (fs.setObj r (.vec (some e) (es ++ ys) (if hole = true then es.length else es.length + ys.length))) a ∧ Le k.base X w cx w' cx' ∧ VR k.sg w' cx' (.vec r (es.length + ys.length)) c' := by
                intro olds hold hfc hcap
                obtain ⟨nc, rest, g1, g2, g3, g4, g5⟩ := append_new (ty := ty) ok ht hE h0 hold hER hsrc hfc hcap (by exact_mod_cast hby) (by omega)
                obtain ⟨cx', f1, f2, f3⟩ := vec_out frd (es2 := es ++ ys) (stab := if hole = true then es.length else es.length + ys.length) hal ho hE h0 g2 (by simpa using g3) g4 (by simpa using hstab.1) (by simp; omega) (g5.mono led)
                refine ⟨_, _, cx', g1, f1, led.trans f2, ?_⟩
                simpa using f3
              cases hqb : q.blk with
              | none =>
                rw [hqb] at hm
                obtain ⟨hes, hcap⟩ := hm
                have := out [] (by rw [hes]; exact ⟨by simp, by simp, by simp, by simp⟩) (by rw [hqb, hes]; exact run_firstCells_none w.drew te.size 0 0 q.cap) (by omega)
                rw [hqb] at this
                exact this
              | some b =>
                have hm0 := hm
                rw [hqb] at hm
                obtain ⟨e', te', l, h1, h2, h3, h4, h5, h6, h7, h8, h9, h10, h11, h12, h13⟩ := hm
                have hee : e' = e := by
                  rcases hsz with hsz | hsz
                  · rw [hsz] at h1; cases h1
                  · rw [hsz] at h1; simpa using h1.symm
                subst hee
                rw [hE] at h2
                simp only [Option.some.injEq] at h2; subst h2
                have hfl : es.length * te.size ≤ l.length := by rw [← h6, h3]; exact Nat.mul_le_mul_right _ h7
                by_cases hroom : es.length + ys.length ≤ q.cap
                · obtain ⟨cx', f1, f2, f3⟩ := vec_in fr hal ho hq hqb hE hER h5 hroom hstab.1 hstab.2
                  have hr := run_append_room_row (P := k.E.P) (w := w) t tx ty e' i ht hi b es.length q.cap ⟨l⟩ h5 d ys.length news (by rw [← e1]; exact hsrc) hroom (by
                    rw [← e1]; simp only [List.size_toArray]; rw [hER.1, ← Nat.add_mul, ← h6, h3]; exact Nat.mul_le_mul_right _ hroom)
                  rw [← e1] at hr
                  exact ⟨_, _, cx', hr, f1, f2, f3⟩
                · have hER0 : ER k w cx te.size es (l.take (es.length * te.size)) := VE.toER ⟨h9, fun i x hx => by rw [← h3]; exact h10 i x hx, fun i x j c hx hc => by rw [← h3]; exact h11 i x j c hx hc⟩ rfl hfl
                  have := out _ hER0 (by
                    rw [hqb]
                    refine run_firstCells_some w.drew te.size es.length ⟨b, 0, none⟩ es.length q.cap _ hER0.1 fun j u hu => ?_
                    rw [List.getElem?_take] at hu
                    split at hu
                    · rw [Addr_add, Nat.zero_add]
                      have hd : w.drew.heap[b]? = some (.cells ⟨l⟩ e' (0, 0)) := h5
                      simp only [World.cell?, hd]
                      simpa using hu
                    · cases hu) (by omega)
                  rw [hqb] at this
                  exact this
          · cases h
        · cases h
      · rename_i kd es
        have same : ys = [] → (∃ ao cap, c = .slice ao es.length cap ∧ es.length ≤ cap) → ∃ c' w' cx', (Builtin.append_ #[t, tx] ty #[c, d]).run k.E.P w = .ok c' w' ∧ FR k X w' cx' fs a ∧ Le k.base X w cx w' cx' ∧ VR k.sg w' cx' (.p (.list kd es)) c' := by
          rintro rfl ⟨ao, cap, rfl, hle⟩
          have hsrc : Src k.E.P te.size tx d 0 [] w := by
            obtain ⟨news, hER, hsrc⟩ := moreOf_src ok fr hk hy hmore (sz := 1) rfl (by omega)
            have : news = [] := List.eq_nil_of_length_eq_zero (by simpa using hER.1)
            subst this
            have hfe : Builtin.firstCells te.size 0 d = Builtin.firstCells 1 0 d := by
              unfold Builtin.firstCells
              simp only [Nat.zero_mul]
            exact ⟨hsrc.kind, hsrc.len, by rw [hfe]; exact hsrc.cells, by rw [hfe]; exact hsrc.cellsD, by simp, by simp⟩
          exact ⟨_, w, cx, run_append_nothing' t tx ty e ht hi e1.symm hsrc hle, fr, Le.refl _ _ _ _, hx⟩
        have shape : ∃ ao cap, c = .slice ao es.length cap ∧ es.length ≤ cap := by
          cases hx with | p _ _ hx =>
          cases hx with
          | nilS => exact ⟨none, 0, rfl, Nat.le_refl _⟩
          | list _ _ b o cap sz' cv hk' hl hcap => exact ⟨_, cap, rfl, hcap⟩
        have new : (kd = .lit ∨ kd = .nil) → ys ≠ [] → (0 < te.size ∧ (es.length + ys.length) * te.bytes ≤ 1099511627776 ∧ es.length + ys.length ≤ 1099511627776 ∧ sameSize te.size es = true ∧ sameSize te.size ys = true) →
            ∃ c' w' cx', (Builtin.append_ #[t, tx] ty #[c, d]).run k.E.P w = .ok c' w' ∧ FR k X w' cx' (fs.newObj g (.vec (some e) (es ++ ys) (if hole then es.length else es.length + ys.length))).2 a ∧ Le k.base X w cx w' cx' ∧
              VR k.sg w' cx' (.vec (fs.newObj g (.vec (some e) (es ++ ys) (if hole then es.length else es.length + ys.length))).1 (es.length + ys.length)) c' := by
          rintro hkd hne ⟨h0, hby, hmx, hse, hsy⟩
          obtain ⟨news, hER, hsrc⟩ := moreOf_src ok fr hk hy hmore hsy h0
          have hpos : 0 < ys.length := List.length_pos_iff.2 hne
          cases hx with | p _ _ hx =>
          obtain ⟨ao, cap, olds, rfl, hle, hlit, hnil, hold, hmem⟩ := list_cells hx hse h0
          have hcap : cap < es.length + ys.length := by
            rcases hkd with rfl | rfl
            · have := hlit rfl; omega
            · have := hnil rfl
              simp only [Value.slice.injEq] at this
              omega
          have hfc : (Builtin.firstCells te.size es.length (.slice ao es.length cap)).run k.E.P w.drew = .ok olds.toArray w.drew := by
            rcases hmem with ⟨rfl, rfl, rfl⟩ | ⟨ad, rfl, hcc⟩
            · have : olds = [] := List.eq_nil_of_length_eq_zero (by simpa using hold.1)
              subst this
              exact run_firstCells_none w.drew te.size 0 0 0
            · exact run_firstCells_some w.drew te.size es.length ad es.length cap olds hold.1 (by simpa using hcc)
          obtain ⟨nc, rest, g1, g2, g3, g4, g5⟩ := append_new (ty := ty) ok ht hE h0 hold hER hsrc hfc hcap (by exact_mod_cast hby) (by omega)
          obtain ⟨cx', f1, f2, f3⟩ := new_vec frd g (es := es ++ ys) (stab := if hole then es.length else es.length + ys.length) hE h0 g2 (by simpa using g3) g4 (by simp; split <;> omega) (g5.mono led)
          refine ⟨_, _, cx', g1, f1, led.trans f2, ?_⟩
          simpa using f3
        split at h
        · simp only [Option.some.injEq, Prod.mk.injEq] at h
          obtain ⟨rfl, rfl⟩ := h
          exact same rfl shape
        · simp only [Option.some.injEq, Prod.mk.injEq] at h
          obtain ⟨rfl, rfl⟩ := h
          exact same rfl shape
        · simp only [Option.some.injEq, Prod.mk.injEq] at h
          obtain ⟨rfl, rfl⟩ := h
          exact same rfl shape
        · split at h
          · rename_i hn hc
            simp only [Option.some.injEq, Prod.mk.injEq] at h
            obtain ⟨rfl, rfl⟩ := h
            exact new (.inl rfl) (fun e => hn e) hc
          · cases h
        · split at h
          · rename_i hn hc
            simp only [Option.some.injEq, Prod.mk.injEq] at h
            obtain ⟨rfl, rfl⟩ := h
            refine new (.inr rfl) (fun e0 => ?_) hc
            cases hx with | p _ _ hx =>
            cases hx with
            | nilS => exact hn rfl e0
            | list _ _ b o cap sz' cv hk' hl hcap => exact hk' rfl
          · cases h
        · cases h
      · cases h
    · cases h
  · cases h
end
end Go.AE

namespace Go.AE
open Go

section
variable {k : K} {X : XR} {w w' : World} {cx cx' : Cx} {fs fs' : FS} {a : Act}

/-- An object's own block turns, where it lies. -/
theorem FR.le_inplace (fr : FR k X w cx fs a) {r : Ref} {b : Nat} (hb : cx.own r = some b) (hs : w'.heap.size = w.heap.size) (hk : ∀ b', b' ≠ b → w'.heap[b']? = w.heap[b']?)
    (io : IO w w') (hS : ∀ i v, cx.S b i → cellAt w b i = some v → cellAt w' b i = some v) : Le k.base X w cx w' cx := by
  obtain ⟨h1, h2, h3⟩ := fr.own1 r b hb
  refine ⟨by rw [hs]; exact Nat.le_refl _, fun b' hb' => hk b' fun e => ?_, fun b' i v hS' hv => ?_, fun _ _ h => h, fun _ _ h => .inl h, fun _ h => h, fun _ _ _ h => h, fun _ q _ h => ⟨q, h, Nat.le_refl _, fun _ => rfl⟩, io⟩
  · subst e
    rcases hb' with hb' | hb'
    · omega
    · exact h3 hb'
  · by_cases hbb : b' = b
    · subst hbb; exact hS i v hS' hv
    · rw [cellAt_of_heap (hk b' hbb), hv]

theorem FR.inplace (fr : FR k X w cx fs a) {r : Ref} {o o' : Obj} {b : Nat} (hal : cx.al r) (ho : fs.obj r = some o) (hb : cx.own r = some b) (hs : w'.heap.size = w.heap.size) (hk : ∀ b', b' ≠ b → w'.heap[b']? = w.heap[b']?)
    (le : Le k.base X w cx w' cx) (hor : OR k w' cx r o') (hgl : ∀ n, r = .glob n → globO o' = true) : FR k X w' cx (fs.setObj r o') a := by
  obtain ⟨h1, h2, h3⟩ := fr.own1 r b hb
  refine fr.upd r o' le (fun _ _ => ⟨rfl, rfl⟩) (fun r' => ⟨.inl, fun h => h.elim id fun e => e ▸ hal⟩) (obj_set fs r _ (by rw [ho]; rfl)) ?_ ?_ ?_ ?_ (fun h => (fr.res _ h).1 hal) ?_ ?_ ?_ hor hgl
  · cases r <;> exact Nat.le_refl _
  · cases r <;> exact Nat.le_refl _
  · cases r <;> rfl
  · cases r
    · exact fr.obL _ _ ho
    · exact fr.obG _ _ ho
  · intro b' _ hne
    exact ⟨hk b' fun e => hne (e ▸ hb), fun _ => Iff.rfl⟩
  · intro b' i h
    rw [hs]; exact fr.slt b' i h
  · intro b' hb'
    rw [hb] at hb'
    simp only [Option.some.injEq] at hb'; subst hb'
    exact ⟨h1, by rw [hs]; exact h2, h3, .inl hb⟩

theorem run_storeVar {P : Program} {t : Nat} {ti : TI} (ht : tiOf P t = some ti) {b off e : Nat} {l : List Value} {c : Value} (hh : w.heap[b]? = some (.cells ⟨l⟩ e (0, 0))) (hsz : c.cells.toList.length = ti.size) (hle : off + ti.size ≤ l.length)
    (h1 : ∀ (i : Nat) (v : Value), c.cells.toList[i]? = some v → v.oneCell = true) :
    (storeVar t ⟨b, off, none⟩ c).run P w = .ok () (w.setRow b (putAt l off c.cells.toList).toArray) := by
  have hst := run_storeCells_at P b off e c.cells.toList 0 ⟨l⟩ w hh (by simp only [List.size_toArray]; omega) (fun v hv => by
    obtain ⟨i, hi⟩ := List.mem_iff_getElem?.1 hv
    exact oneCell'_of (h1 i v hi))
  have hsz' : c.cells.size = ti.size := by simpa using hsz
  unfold storeVar
  simp only [Sem.run_bind, run_sizeOf ht, Result.andThen_ok, hsz', ne_eq, not_true_eq_false, if_false, Nat.add_zero] at hst ⊢
  exact hst

theorem okTop_pureA {fs : FS} {v : V} {x : PV} (h : pureA fs v = some x) (ho : okTop v = true) : okTop (.p x) = true := by
  unfold pureA at h
  simp only [Option.bind_eq_some_iff] at h
  obtain ⟨v', h1, h2⟩ := h
  unfold expA at h1
  split at h1
  · simp only [Option.map_eq_some_iff] at h1
    obtain ⟨cs', _, rfl⟩ := h1
    unfold mkAgg at h2
    split at h2
    · simp only [V.pv, Option.some.injEq] at h2; subst h2; rfl
    · simp [V.pv] at h2
  · unfold expS at h1
    split at h1
    · simp only [Option.some.injEq] at h1; subst h1
      simp only [V.pv, Option.some.injEq] at h2; subst h2; exact ho
    · simp only [Option.some.injEq] at h1; subst h1; simp [V.pv] at h2
    · simp only [Option.some.injEq] at h1; subst h1; simp [V.pv] at h2
    · split at h1
      · split at h1
        · simp only [Option.some.injEq] at h1; subst h1
          simp only [V.pv, Option.some.injEq] at h2; subst h2; rfl
        · cases h1
      · cases h1
    · split at h1
      · simp only [Option.some.injEq] at h1; subst h1; simp [V.pv] at h2
      · cases h1
    · cases h1

theorem mkAgg_glob {cs : List V} (h : cs.all glob1 = true) : globA (mkAgg cs) = true := by
  unfold mkAgg
  split
  · rfl
  · exact h

theorem expS_glob {fs : FS} {v v' : V} (h : expS fs v = some v') : glob1 v' = true := by
  unfold expS at h
  split at h
  · simp only [Option.some.injEq] at h; subst h; rfl
  · simp only [Option.some.injEq] at h; subst h; rfl
  · simp only [Option.some.injEq] at h; subst h; rfl
  · split at h
    · split at h
      · simp only [Option.some.injEq] at h; subst h; rfl
      · cases h
    · cases h
  · split at h
    · rename_i hg
      simp only [Option.some.injEq] at h; subst h; exact hg
    · cases h
  · cases h

theorem mapO_all {g : V → Option V} {q : V → Bool} (hg : ∀ {v v' : V}, g v = some v' → q v' = true) : ∀ {cs cs' : List V}, mapO g cs = some cs' → cs'.all q = true := by
  intro cs
  induction cs with
  | nil => intro cs' h; simp [mapO] at h; subst h; rfl
  | cons x r ih =>
    intro cs' h
    simp only [mapO] at h
    split at h
    · rename_i y ys hy hys
      simp only [Option.some.injEq] at h; subst h
      simp only [List.all_cons, hg hy, ih hys, Bool.and_true]
    · cases h

theorem glob1_A {v : V} (h : glob1 v = true) : globA v = true := by
  cases v <;> first | exact h | (simp [glob1] at h)

theorem expA_glob {fs : FS} {v v' : V} (h : expA fs v = some v') : globA v' = true := by
  unfold expA at h
  split at h
  · simp only [Option.map_eq_some_iff] at h
    obtain ⟨cs', h1, rfl⟩ := h
    exact mkAgg_glob (mapO_all expS_glob h1)
  · exact glob1_A (expS_glob h)

theorem keepS_glob {fs : FS} {v v' : V} (h : keepS fs v = some v') : globA v' = true := by
  unfold keepS at h
  split at h
  · simp only [Option.some.injEq] at h; subst h; rfl
  · exact expA_glob h

theorem cells_glob {v : V} (h : globA v = true) : v.cells.all glob1 = true := by
  cases v with
  | p x => simp [V.cells, List.all_map, Function.comp_def, glob1]
  | agg cs => exact h
  | _ => simpa [V.cells, globA] using h

theorem store_sound (ok : KOk k) (fr : FR k X w cx fs a) {t : Nat} {ti : TI} (hT : k.E.T t = some ti) {p v : V} {ca c : Value} (hp : VR k.sg w cx p ca) (hv : VR k.sg w cx v c) (h : storeV fs ti p v = some fs') :
    ∃ w' cx', (Instr.storeAt t ca c).run k.E.P w = .ok () w' ∧ FR k X w' cx' fs' a ∧ Le k.base X w cx w' cx' := by
  have ht := ok.ty t ti hT
  unfold storeV at h
  split at h
  · rename_i r off
    split at h
    · rename_i cs ho
      split at h
      · rename_i v' hv'
        have hvr : VR k.sg w cx v' c := by
          cases r with
          | loc id => simp only [Option.some.injEq] at hv'; subst hv'; exact hv
          | glob n => exact keepS_sound fr hv hv'
        split at h
        · rename_i hc
          obtain ⟨h1, h2, h3⟩ := hc
          simp only [Option.some.injEq] at h; subst h
          cases hp with | ptr _ _ ad hal had =>
          obtain ⟨b, T, l, hb, hh, hcr, hS, _⟩ := fr.cells ho hal
          have := had b hb; subst this
          have hcv := hvr.cells h3
          have hlen : c.cells.toList.length = ti.size := by rw [hcv.1, h1]
          have hr := run_storeVar ht hh hlen (by rw [hcr.1]; exact h2) hcv.2.1
          have hsz : (w.setRow b (putAt l off c.cells.toList).toArray).heap.size = w.heap.size := by simp
          have hot : ∀ b', b' ≠ b → (w.setRow b (putAt l off c.cells.toList).toArray).heap[b']? = w.heap[b']? := fun b' hb' => setRow_other w b b' _ hb'
          have hat := setRow_heap w b _ (putAt l off c.cells.toList).toArray T _ hh
          have hown : cx.own r = some b := by simp [Cx.own, hb]
          have le := fr.le_inplace hown hsz hot ⟨rfl, rfl⟩ fun i v hSi _ => (hS i hSi).elim
          have hcr' := (hcr.put hcv off (by rw [h1]; exact h2)).mono le
          refine ⟨_, cx, ?_, fr.inplace hal ho hown hsz hot le ⟨(fr.obj r _ ho hal).1, b, T, _, hb, hat, hcr'.1, hcr'.2.1, hcr'.2.2, hS⟩ (fun n e => ?_), le⟩
          · unfold Instr.storeAt
            simp only [Sem.run_bind, Instr.sureAddr, Sem.run_pure, Result.andThen_ok]
            exact hr
          · subst e
            have g1 := fr.gl n _ ho
            have g2 := cells_glob (keepS_glob hv')
            simp only [globO, List.all_eq_true] at g1 g2 ⊢
            intro x hx
            simp only [putAt, List.mem_append] at hx
            rcases hx with (hx | hx) | hx
            · exact g1 x (List.mem_of_mem_take hx)
            · exact g2 x hx
            · exact g1 x (List.mem_of_mem_drop hx)
        · cases h
      · cases h
    · cases h
  · rename_i r n i off
    split at h
    · rename_i sz es stab x ho hx
      split at h
      · rename_i hc
        obtain ⟨rfl, rfl, hst, hot0⟩ := hc
        split at h
        · rename_i e hei
          split at h
          · rename_i hcc
            obtain ⟨hce, hcx⟩ := hcc
            simp only [Option.some.injEq] at h; subst h
            cases hp with | vptr _ _ _ _ ad hal had =>
            obtain ⟨hblk, q, hq, hlen, hsl, hm⟩ := fr.obj r _ ho hal
            obtain ⟨_, hadd⟩ := had q hq
            obtain ⟨b, hqb, rfl⟩ := hadd hlen
            rw [hqb] at hm
            obtain ⟨e', te, l, h1, h2, h3, h4, h5, h6, h7, h8, h9, h10, h11, h12, h13⟩ := hm
            have htq : ti.size = q.sz := by rw [← hce, h10 i e hei]
            have hi : i < es.length := (List.getElem?_eq_some_iff.1 hei).1
            have hxr := pureA_sound fr hv hx
            have hcv : CR k w cx (x.cells.map .p) c.cells.toList := (VR.p x c hxr).cells (okTop_pureA hx hot0)
            have hclen : c.cells.toList.length = ti.size := by rw [hcv.1]; simpa using hcx
            have hfit : i * q.sz + ti.size ≤ l.length := by
              rw [← h6, htq]
              have : (i + 1) * q.sz ≤ q.cap * q.sz := Nat.mul_le_mul_right _ (by omega)
              rw [Nat.add_mul] at this; omega
            have hr := run_storeVar (off := i * q.sz) ht h5 hclen hfit hcv.2.1
            generalize hl2 : putAt l (i * q.sz) c.cells.toList = l2 at hr
            have hget : ∀ m, l2[m]? = if i * q.sz ≤ m ∧ m < i * q.sz + ti.size then c.cells.toList[m - i * q.sz]? else l[m]? := by
              intro m
              rw [← hl2, putAt_get _ _ _ (by omega), hclen]
              by_cases g1 : m < i * q.sz
              · rw [if_pos g1, if_neg (by omega)]
              · rw [if_neg g1]
                by_cases g2 : m < i * q.sz + ti.size
                · rw [if_pos g2, if_pos (by omega)]
                · rw [if_neg g2, if_neg (by omega)]
            have hll : l2.length = l.length := by rw [← hl2, putAt_length _ _ _ (by omega)]
            have hown : cx.own r = some b := by simp [Cx.own, hblk, hq, hqb]
            obtain ⟨o1, o2, o3⟩ := fr.own1 r b hown
            have hsz : (w.setRow b l2.toArray).heap.size = w.heap.size := by simp
            have hot : ∀ b', b' ≠ b → (w.setRow b l2.toArray).heap[b']? = w.heap[b']? := fun b' hb' => setRow_other w b b' _ hb'
            have hat : (w.setRow b l2.toArray).heap[b]? = some (.cells l2.toArray e' (0, 0)) := setRow_heap w b _ _ e' _ h5
            have hstab : stab ≤ (if stab = i ∧ i + 1 = es.length then es.length else stab) ∧ (if stab = i ∧ i + 1 = es.length then es.length else stab) ≤ es.length := by split <;> omega
            generalize (if stab = i ∧ i + 1 = es.length then es.length else stab) = stab' at hstab
            have le : Le k.base X w cx (w.setRow b l2.toArray) { cx with S := fun b' m => cx.S b' m ∨ (b' = b ∧ m < stab' * q.sz) } := by
              refine ⟨by rw [hsz]; exact Nat.le_refl _, fun b' hb' => hot b' fun e => ?_, fun b' m v hS hv => ?_, fun _ _ h => .inl h, fun b' m h => ?_, fun _ h => h, fun _ _ _ h => h, fun _ q _ h => ⟨q, h, Nat.le_refl _, fun _ => rfl⟩, ⟨rfl, rfl⟩⟩
              · subst e
                rcases hb' with hb' | hb'
                · omega
                · exact o3 hb'
              · by_cases hbb : b' = b
                · subst hbb
                  have hm : m < stab * q.sz := Nat.lt_of_not_le fun hle => h13 m hle hS
                  have hm' : m < i * q.sz := Nat.lt_of_lt_of_le hm (Nat.mul_le_mul_right _ hst)
                  simp only [cellAt, World.cell?, hat, h5] at hv ⊢
                  rw [← hv]
                  have := hget m
                  rw [if_neg (by omega)] at this
                  simpa using this
                · rw [cellAt_of_heap (hot b' hbb), hv]
              · rcases h with h | ⟨rfl, _⟩
                · exact .inl h
                · exact .inr o3
            have hve : VE k w cx q.sz (es.set i x) l2 := by
              refine ⟨fun m v hv => ?_, fun j y hy => ?_, fun j y m z hy hz => ?_⟩
              · rw [hget] at hv
                split at hv
                · exact hcv.2.1 _ v hv
                · exact h9 m v hv
              · by_cases hij : i = j
                · subst hij
                  rw [List.getElem?_set_self hi] at hy
                  simp only [Option.some.injEq] at hy; subst hy; rw [hcx, htq]
                · rw [List.getElem?_set_ne hij] at hy
                  exact h10 j y hy
              · by_cases hij : i = j
                · subst hij
                  rw [List.getElem?_set_self hi] at hy
                  · simp only [Option.some.injEq] at hy; subst hy
                    have hmz : m < ti.size := by rw [← hcx]; exact (List.getElem?_eq_some_iff.1 hz).1
                    rw [hget, if_pos (by omega)]
                    have e2 : i * q.sz + m - i * q.sz = m := by omega
                    rw [e2]
                    refine ⟨c.cells.toList[m], by simp only [List.getElem?_eq_getElem (show m < c.cells.toList.length by omega)], ?_⟩
                    have := hcv.2.2 m (.p z) c.cells.toList[m] (by simp [hz]) (by simp only [List.getElem?_eq_getElem (show m < c.cells.toList.length by omega)])
                    cases this; assumption
                · rw [List.getElem?_set_ne hij] at hy
                  have hmz : m < q.sz := by rw [← h10 j y hy]; exact (List.getElem?_eq_some_iff.1 hz).1
                  rw [hget, if_neg]
                  · exact h11 j y m z hy hz
                  · rw [htq]
                    rintro ⟨g1, g2⟩
                    rcases Nat.lt_or_gt_of_ne hij with hlt | hgt
                    · have : (i + 1) * q.sz ≤ j * q.sz := Nat.mul_le_mul_right _ hlt
                      rw [Nat.add_mul] at this; omega
                    · have : (j + 1) * q.sz ≤ i * q.sz := Nat.mul_le_mul_right _ hgt
                      rw [Nat.add_mul] at this; omega
            have hve' := hve.mono le
            refine ⟨_, _, ?_, fr.upd r (.vec sz (es.set i x) stab') le (fun _ _ => ⟨rfl, rfl⟩) (fun r' => ⟨.inl, fun h => h.elim id fun e => e ▸ hal⟩) (obj_set fs r _ (by rw [ho]; rfl)) ?_ ?_ ?_ ?_ (fun h => (fr.res _ h).1 hal) ?_ ?_ ?_ ?_, le⟩
            · unfold Instr.storeAt
              simp only [Sem.run_bind, Instr.sureAddr, Sem.run_pure, Result.andThen_ok]
              exact hr
            · cases r <;> exact Nat.le_refl _
            · cases r <;> exact Nat.le_refl _
            · cases r <;> rfl
            · cases r
              · exact fr.obL _ _ ho
              · exact fr.obG _ _ ho
            · intro b' _ hne
              have hbb : b' ≠ b := fun e => hne (e ▸ hown)
              exact ⟨hot b' hbb, fun m => ⟨fun h => h.resolve_right fun h => hbb h.1, .inl⟩⟩
            · intro b' m h
              rw [hsz]
              rcases h with h | ⟨rfl, _⟩
              · exact fr.slt b' m h
              · exact o2
            · intro b' hb'
              have : b' = b := by
                have hb'' : cx.own r = some b' := hb'
                rw [hown] at hb''; simpa using hb''.symm
              subst this
              exact ⟨o1, by rw [hsz]; exact o2, o3, .inl hown⟩
            · refine ⟨hblk, q, hq, by simpa using hlen, by simpa using hstab.2, ?_⟩
              rw [hqb]
              refine ⟨e', te, l2, h1, h2, h3, h4, hat, by rw [hll]; exact h6, by simpa using h7, h8, hve'.1, hve'.2.1, hve'.2.2, fun m hm => .inr ⟨rfl, hm⟩, fun m hm hS => ?_⟩
              rcases hS with hS | ⟨_, hS⟩
              · exact h13 m (Nat.le_trans (Nat.mul_le_mul_right _ hstab.1) hm) hS
              · omega
          · cases h
        · cases h
      · cases h
    · cases h
  · cases h
end
end Go.AE
