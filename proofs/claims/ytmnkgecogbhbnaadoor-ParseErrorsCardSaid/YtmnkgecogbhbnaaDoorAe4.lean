/-
AE, part T: what turns no more.
AE, part U: maps that turn.
AE, part V: all operations but calls.
AE, part W: what a frame shares with those that it calls.
AE, part X: calls, one step of a region, regions in the order of the text.
AE, part Y: pieces of code.
AE, part Z: functions, whole.
-/
import Derived.Test.YtmnkgecogbhbnaaDoorAe3
import Derived.Calls
import Derived.LoopN
namespace Go.AE
open Go

theorem lkp_del (l : List (Nat × Obj)) (i j : Nat) : lkp (del l i) j = if j = i then none else lkp l j := by
  induction l with
  | nil => simp [lkp, del]
  | cons p r ih =>
    obtain ⟨n, x⟩ := p
    simp only [lkp, del]
    by_cases hn : n = i
    · subst hn
      simp only [if_true, ih]
      by_cases hj : j = n
      · simp [hj]
      · have : ¬ n = j := fun e => hj e.symm
        simp [hj, this]
    · simp only [hn, if_false, lkp]
      by_cases hj : n = j
      · subst hj; simp [hn]
      · simp only [hj, if_false]; exact ih

theorem obj_del (fs : FS) (r0 : Ref) : ∀ r, (fs.delObj r0).obj r = if r = r0 then none else fs.obj r := by
  intro r
  cases r0 with
  | loc i =>
    cases r with
    | loc j => simp only [FS.delObj, FS.obj, Ref.loc.injEq]; exact lkp_del _ _ _
    | glob n => simp [FS.delObj, FS.obj]
  | glob m =>
    cases r with
    | loc j => simp [FS.delObj, FS.obj]
    | glob n => simp [FS.delObj, FS.obj, St.del]

section
variable {k : K} {X : XR} {w w' : World} {cx cx' : Cx} {fs fs' : FS} {a : Act}

/-- An object of which nothing turns any more becomes a pure value. -/
theorem frzStore_sound (fr : FR k X w cx fs a) {r : Ref} {cs cs' : List V} {ps : List PV} {t : Nat} (ho : fs.obj r = some (.cells cs)) (h1 : mapO (expS fs) cs = some cs') (h2 : unp cs' = some ps) (henv : (fs.env.get t) = some (.ptr r 0)) :
    ∃ cx', FR k X w cx' { fs.delObj r with env := fs.env.set t (.p (.pref ps 0)) } a ∧ Le k.base X w cx w cx' := by
  have hti : t < a.tmps.size := fr.len t _ henv
  have hvp := fr.env t _ a.tmps[t] henv (by simp [hti])
  have hal : cx.al r := by
    generalize a.tmps[t] = c0 at hvp
    cases hvp; assumption
  obtain ⟨b, T, l, hb, hh, hcr, hS, hcell⟩ := fr.cells ho hal
  have hvec := (fr.obj r _ ho hal).1
  have hown : cx.own r = some b := by simp [Cx.own, hb]
  obtain ⟨o1, o2, o3⟩ := fr.own1 r b hown
  have le : Le k.base X w cx w { cx with S := fun b' i => cx.S b' i ∨ b' = b, blk := fun r' => if r' = r then none else cx.blk r' } := by
    refine ⟨Nat.le_refl _, fun _ _ => rfl, fun _ _ _ _ h => h, fun _ _ h => .inl h, fun b' i h => ?_, fun _ h => h, fun r' b' _ h => ?_, fun _ q _ h => ⟨q, h, Nat.le_refl _, fun _ => rfl⟩, .refl w⟩
    · rcases h with h | rfl
      · exact .inl h
      · exact .inr o3
    · simp only at h
      split at h
      · cases h
      · exact h
  have own_ne : ∀ r' b', ({ cx with S := fun b' i => cx.S b' i ∨ b' = b, blk := fun r' => if r' = r then none else cx.blk r' } : Cx).own r' = some b' → r' ≠ r ∧ cx.own r' = some b' := by
    intro r' b' h
    unfold Cx.own at h
    simp only at h
    by_cases hr : r' = r
    · subst hr
      simp [hvec] at h
    · simp only [hr, if_false] at h
      exact ⟨hr, h⟩
  have hobj : ∀ r', ({ fs.delObj r with env := fs.env.set t (.p (.pref ps 0)) } : FS).obj r' = if r' = r then none else fs.obj r' := fun r' => by
    rw [← obj_del fs r r']; cases r' <;> rfl
  refine ⟨_, ⟨fr.size, fr.pre, fun b' hb' i => Or.inl (fr.preS b' hb' i), fun b' i h => ?_, fun r' o hor hal' => ?_, fun r' h => ?_, fun r' b' h => ?_, fun r' r'' b' h h' => ?_, fr.xlt, fun id h => ?_, fun n h => ?_, fun id o h => ?_, fun n o h => ?_, fun i v hv => by
      cases hg : fs.env.get i with
      | none => simp only [Tr.get_set, hg] at hv; split at hv <;> cases hv
      | some u => exact fr.len i u hg, fun i v c hv hc => ?_, fr.defers, fun n o h => ?_, fun q hq => by exact ⟨(fr.res q hq).1, by cases r <;> cases q <;> exact (fr.res _ hq).2⟩⟩, le⟩
  · rcases h with h | rfl
    · exact fr.slt b' i h
    · exact o2
  · rw [hobj] at hor
    by_cases hr : r' = r
    · simp [hr] at hor
    · simp only [hr, if_false] at hor
      refine (fr.obj r' o hor hal').mono le (by simp [hr]) rfl fun b' hb' => ⟨rfl, fun i => ⟨fun h => h.resolve_right fun e => hr (fr.own2 r' r b (e ▸ hb') hown), .inl⟩⟩
  · by_cases hr : r' = r
    · subst hr; exact ⟨by simp, hvec⟩
    · have := fr.non r' h
      exact ⟨by simp [hr, this.1], this.2⟩
  · exact fr.own1 r' b' (own_ne r' b' h).2
  · exact fr.own2 r' r'' b' (own_ne r' b' h).2 (own_ne r'' b' h').2
  · have := fr.alL id h
    cases r <;> exact this
  · have := fr.alG n h
    cases r <;> exact this
  · rw [hobj] at h
    split at h
    · cases h
    · have := fr.obL id o h
      cases r <;> exact this
  · rw [hobj] at h
    split at h
    · cases h
    · have := fr.obG n o h
      cases r <;> exact this
  · simp only at hv
    by_cases hit : t = i
    · subst hit
      rw [Tr.get_set, if_pos rfl, henv] at hv
      simp only [Option.map_some, Option.some.injEq] at hv; subst hv
      have hcc : c = a.tmps[t] := by
        have : a.tmps[t]? = some a.tmps[t] := by simp [hti]
        rw [this] at hc; simpa using hc.symm
      rw [hcc]
      generalize a.tmps[t] = c0 at hvp
      cases hvp with | ptr _ _ ad _ had =>
      have := had b hb; subst this
      have hcr' : CR k w cx (ps.map .p) l := by
        have := hcr.mapO (fun hv he => expS_sound fr hv he) h1
        rw [unp_spec h2] at this; exact this
      have hlen : l.length = ps.length := by simpa using hcr'.1
      have hg : ∀ i x, ps[i]? = some x → l[i]? = some (l.getD i .nilIface) := fun i x hx => by
        have hi : i < l.length := by rw [hlen]; exact (List.getElem?_eq_some_iff.1 hx).1
        simp [List.getD, List.getElem?_eq_getElem hi]
      refine .p _ _ ?_
      have := Rep.pref (sg := k.sg) (w := w) (S := fun b' i => cx.S b' i ∨ b' = b) ps 0 b 0 (fun i => l.getD i .nilIface) (fun i x hx => ?_) fun i x hx => ?_
      · exact this
      · exact ⟨.inr rfl, by rw [Nat.zero_add]; exact hcell i _ (hg i x hx), hcr'.2.1 i _ (hg i x hx)⟩
      · have h0 := hcr'.2.2 i (.p x) _ (by simp [hx]) (hg i x hx)
        cases h0 with | p _ _ h0 =>
        exact h0.mono (fun _ _ h => .inl h) (fun _ _ _ _ h => h)
    · rw [Tr.get_set_ne hit] at hv
      exact (fr.env i v c hv hc).mono le
  · rw [hobj] at h
    split at h
    · cases h
    · exact fr.gl n o h

/-- An object that the frame may not name turns without harm. -/
theorem FR.dead (fr : FR k X w cx fs a) {r : Ref} {o : Obj} (ho : (fs.obj r).isSome) (hal : ¬ cx.al r) (hgl : globO o = true) : FR k X w cx (fs.setObj r o) a := by
  have hobj := obj_set fs r o ho
  refine ⟨fr.size, fr.pre, fr.preS, fr.slt, fun r' o' hor hal' => ?_, fun r' h => ?_, fr.own1, fr.own2, fr.xlt, fun id h => ?_, fun n h => ?_, fun id o h => ?_, fun n o h => ?_, ?_, fun i v c hv hc => ?_, fr.defers, fun n o' h => ?_, fun q hq => ⟨(fr.res q hq).1, by cases r <;> cases q <;> exact (fr.res _ hq).2⟩⟩
  · rw [hobj] at hor
    by_cases hr : r' = r
    · exact (hal (hr ▸ hal')).elim
    · simp only [hr, if_false] at hor
      exact fr.obj r' o' hor hal'
  · exact fr.non r' h
  · have := fr.alL id h
    cases r <;> exact this
  · have := fr.alG n h
    cases r <;> exact this
  · have h' : (fs.obj (.loc id)).isSome := by
      rw [hobj] at h
      split at h
      · rename_i e; rw [e]; exact ho
      · rw [h]; rfl
    obtain ⟨o', ho'⟩ := Option.isSome_iff_exists.1 h'
    have := fr.obL id o' ho'
    cases r <;> exact this
  · have h' : (fs.obj (.glob n)).isSome := by
      rw [hobj] at h
      split at h
      · rename_i e; rw [e]; exact ho
      · rw [h]; rfl
    obtain ⟨o', ho'⟩ := Option.isSome_iff_exists.1 h'
    have := fr.obG n o' ho'
    cases r <;> exact this
  · have := fr.len
    cases r <;> exact this
  · have hv' : (fs.env.get i) = some v := by cases r <;> exact hv
    exact fr.env i v c hv' hc
  · rw [hobj] at h
    split at h
    · simp only [Option.some.injEq] at h; subst h; exact hgl
    · exact fr.gl n o' h

theorem frzR_sound (fr : FR k X w cx fs a) (r : Ref) : ∃ cx', FR k X w cx' (frzR fs r) a ∧ Le k.base X w cx w cx' := by
  unfold frzR
  split
  · rename_i et es stab ho
    split
    · exact ⟨cx, fr, Le.refl _ _ _ _⟩
    · by_cases hal : cx.al r
      · obtain ⟨hblk, q, hq, hlen, hsl, hm⟩ := fr.obj r _ ho hal
        cases hqb : q.blk with
        | none =>
          have hown : cx.own r = none := by simp [Cx.own, hblk, hq, hqb]
          rw [hqb] at hm
          refine ⟨cx, fr.upd r _ (Le.refl _ _ _ _) (fun _ _ => ⟨rfl, rfl⟩) (fun r' => ⟨.inl, fun h => h.elim id fun e => e ▸ hal⟩) (obj_set fs r _ (by rw [ho]; rfl)) ?_ ?_ ?_ ?_ (fun h => (fr.res _ h).1 hal) (fun _ _ _ => ⟨rfl, fun _ => Iff.rfl⟩) fr.slt (fun b' hb' => by rw [hown] at hb'; cases hb')
            ⟨hblk, q, hq, hlen, Nat.le_refl _, by rw [hqb]; exact hm⟩, Le.refl _ _ _ _⟩
          · cases r <;> exact Nat.le_refl _
          · cases r <;> exact Nat.le_refl _
          · cases r <;> rfl
          · cases r
            · exact fr.obL _ _ ho
            · exact fr.obG _ _ ho
        | some b =>
          have hown : cx.own r = some b := by simp [Cx.own, hblk, hq, hqb]
          obtain ⟨o1, o2, o3⟩ := fr.own1 r b hown
          rw [hqb] at hm
          obtain ⟨e', te, l, h1, h2, h3, h4, h5, h6, h7, h8, h9, h10, h11, h12, h13⟩ := hm
          have le : Le k.base X w cx w { cx with S := fun b' m => cx.S b' m ∨ (b' = b ∧ m < es.length * q.sz) } := by
            refine ⟨Nat.le_refl _, fun _ _ => rfl, fun _ _ _ _ h => h, fun _ _ h => .inl h, fun b' i h => ?_, fun _ h => h, fun _ _ _ h => h, fun _ q _ h => ⟨q, h, Nat.le_refl _, fun _ => rfl⟩, .refl w⟩
            rcases h with h | ⟨rfl, _⟩
            · exact .inl h
            · exact .inr o3
          refine ⟨_, fr.upd r (.vec et es es.length) le (fun _ _ => ⟨rfl, rfl⟩) (fun r' => ⟨.inl, fun h => h.elim id fun e => e ▸ hal⟩) (obj_set fs r _ (by rw [ho]; rfl)) ?_ ?_ ?_ ?_ (fun h => (fr.res _ h).1 hal) (fun b' _ hne => ⟨rfl, fun m => ⟨fun h => h.resolve_right fun h => hne (h.1 ▸ hown), .inl⟩⟩) (fun b' m h => ?_) (fun b' hb' => ?_) ?_, le⟩
          · cases r <;> exact Nat.le_refl _
          · cases r <;> exact Nat.le_refl _
          · cases r <;> rfl
          · cases r
            · exact fr.obL _ _ ho
            · exact fr.obG _ _ ho
          · rcases h with h | ⟨rfl, _⟩
            · exact fr.slt b' m h
            · exact o2
          · have : cx.own r = some b' := hb'
            rw [hown] at this
            have : b' = b := by simpa using this.symm
            subst this
            exact ⟨o1, o2, o3, .inl hown⟩
          · refine ⟨hblk, q, hq, hlen, Nat.le_refl _, ?_⟩
            rw [hqb]
            refine ⟨e', te, l, h1, h2, h3, h4, h5, h6, h7, h8, h9, h10, fun i x j c hx hc => ?_, fun m hm => .inr ⟨rfl, hm⟩, fun m hm hS => ?_⟩
            · obtain ⟨v, g1, g2⟩ := h11 i x j c hx hc
              exact ⟨v, g1, g2.mono le.smono le.cells⟩
            · rcases hS with hS | ⟨_, hS⟩
              · exact h13 m (Nat.le_trans (Nat.mul_le_mul_right _ hsl) hm) hS
              · omega
      · exact ⟨cx, fr.dead (by rw [ho]; rfl) hal rfl, Le.refl _ _ _ _⟩
  · exact ⟨cx, fr, Le.refl _ _ _ _⟩

/-- A step that only makes more of memory stay. -/
def Calm (k : K) (X : XR) (w : World) (a : Act) (f : FS → FS) : Prop := ∀ {cx : Cx} {fs : FS}, FR k X w cx fs a → ∃ cx', FR k X w cx' (f fs) a ∧ Le k.base X w cx w cx'

theorem Calm.id : Calm k X w a fun fs => fs := fun fr => ⟨_, fr, Le.refl _ _ _ _⟩
theorem Calm.fold {α : Type} {g : FS → α → FS} (h : ∀ x, Calm k X w a fun fs => g fs x) : ∀ l : List α, Calm k X w a fun fs => l.foldl g fs := by
  intro l
  induction l with
  | nil => exact Calm.id
  | cons x r ih =>
    intro cx fs fr
    obtain ⟨cx1, f1, l1⟩ := h x fr
    obtain ⟨cx2, f2, l2⟩ := ih f1
    exact ⟨cx2, f2, l1.trans l2⟩

theorem frz1_calm (v : V) : Calm k X w a fun fs => frz1 fs v := by
  intro cx fs fr
  cases v <;> first | exact frzR_sound fr _ | exact ⟨_, fr, Le.refl _ _ _ _⟩
theorem frzA_calm (v : V) : Calm k X w a fun fs => frzA fs v := by
  intro cx fs fr
  simp only [frzA]
  split
  · exact Calm.fold (fun x => frz1_calm x) _ fr
  · exact frz1_calm _ fr
theorem frzT_calm (v : V) : Calm k X w a fun fs => frzT fs v := by
  intro cx fs fr
  simp only [frzT]
  split
  · exact Calm.fold (fun x => frzA_calm x) _ fr
  · exact frzA_calm _ fr
theorem frzK_calm (v : V) : Calm k X w a fun fs => frzK fs v := by
  intro cx fs fr
  simp only [frzK]
  split
  · exact ⟨_, fr, Le.refl _ _ _ _⟩
  · exact frzA_calm _ fr
theorem frzKT_calm (v : V) : Calm k X w a fun fs => frzKT fs v := by
  intro cx fs fr
  simp only [frzKT]
  split
  · exact Calm.fold (fun x => frzK_calm x) _ fr
  · exact frzK_calm _ fr
end
end Go.AE

namespace Go.AE
open Go

section
variable {k : K} {X : XR} {w w' : World} {cx cx' : Cx} {fs fs' : FS} {a : Act}

theorem setK_now {P : Program} {t : Nat} {ti : TI} (ht : tiOf P t = some ti) {ds : TypeDesc} (hd : P.underlying t = some ds) {x : PV} {v : V} {c : Value} (hx : Rep k.sg w cx.S x c) (hk : keyOk ti.und x = true) :
    ∀ {es es' : List (PV × V)} {ms : List MapEntry} (_ : MR k w cx es ms) (i : Nat), setK x v es = some es' →
      (Instr.findNow ds c ms i = some none ∧ es' = es ++ [(x, v)]) ∨ ∃ j old val, Instr.findNow ds c ms i = some (some (i + j, val)) ∧ ms[j]? = some old ∧ Instr.sameBits 10000 old.key c = true ∧ es' = es.set j (x, v) := by
  intro es
  induction es with
  | nil =>
    intro es' ms hm i h
    simp only [setK, Option.some.injEq] at h; subst h
    have : ms = [] := List.eq_nil_of_length_eq_zero (by simpa using hm.1)
    subst this
    exact .inl ⟨rfl, rfl⟩
  | cons e rest ih =>
    intro es' ms hm i h
    obtain ⟨y, u⟩ := e
    cases ms with
    | nil => have := hm.1; simp at this
    | cons m ms =>
      obtain ⟨h1, h2, h3⟩ := hm.tail
      simp only [setK] at h
      split at h
      · rename_i he
        simp only [Option.some.injEq] at h; subst h
        obtain ⟨ds', hd', hn, hb⟩ := keyEq_now ht hx h1 hk he
        rw [hd] at hd'
        have : ds = ds' := by simpa using hd'
        subst this
        exact .inr ⟨0, m, m.val, by simp [Instr.findNow, hn], rfl, hb rfl, rfl⟩
      · rename_i he
        simp only [Option.map_eq_some_iff] at h
        obtain ⟨es2, h4, rfl⟩ := h
        obtain ⟨ds', hd', hn, _⟩ := keyEq_now ht hx h1 hk he
        rw [hd] at hd'
        have : ds = ds' := by simpa using hd'
        subst this
        rcases ih h3 (i + 1) h4 with ⟨g1, g2⟩ | ⟨j, old, val, g1, g2, g3, g4⟩
        · exact .inl ⟨by simp [Instr.findNow, hn, g1], by rw [g2]; rfl⟩
        · refine .inr ⟨j + 1, old, val, ?_, by simpa using g2, g3, by rw [g4]; rfl⟩
          simp only [Instr.findNow, hn, g1]
          congr 2
          simp; omega
      · cases h

theorem delK_now {P : Program} {t : Nat} {ti : TI} (ht : tiOf P t = some ti) {ds : TypeDesc} (hd : P.underlying t = some ds) {x : PV} {c : Value} (hx : Rep k.sg w cx.S x c) (hk : keyOk ti.und x = true) :
    ∀ {es es' : List (PV × V)} {ms : List MapEntry} (_ : MR k w cx es ms) (i : Nat), delK x es = some es' →
      (Instr.findNow ds c ms i = some none ∧ es' = es) ∨ ∃ j val, Instr.findNow ds c ms i = some (some (i + j, val)) ∧ j < ms.length ∧ es' = es.eraseIdx j := by
  intro es
  induction es with
  | nil =>
    intro es' ms hm i h
    simp only [delK, Option.some.injEq] at h; subst h
    have : ms = [] := List.eq_nil_of_length_eq_zero (by simpa using hm.1)
    subst this
    exact .inl ⟨rfl, rfl⟩
  | cons e rest ih =>
    intro es' ms hm i h
    obtain ⟨y, u⟩ := e
    cases ms with
    | nil => have := hm.1; simp at this
    | cons m ms =>
      obtain ⟨h1, h2, h3⟩ := hm.tail
      simp only [delK] at h
      split at h
      · rename_i he
        simp only [Option.some.injEq] at h; subst h
        obtain ⟨ds', hd', hn, hb⟩ := keyEq_now ht hx h1 hk he
        rw [hd] at hd'
        have : ds = ds' := by simpa using hd'
        subst this
        exact .inr ⟨0, m.val, by simp [Instr.findNow, hn], by simp, rfl⟩
      · rename_i he
        simp only [Option.map_eq_some_iff] at h
        obtain ⟨es2, h4, rfl⟩ := h
        obtain ⟨ds', hd', hn, _⟩ := keyEq_now ht hx h1 hk he
        rw [hd] at hd'
        have : ds = ds' := by simpa using hd'
        subst this
        rcases ih h3 (i + 1) h4 with ⟨g1, g2⟩ | ⟨j, val, g1, g2, g4⟩
        · exact .inl ⟨by simp [Instr.findNow, hn, g1], by rw [g2]⟩
        · refine .inr ⟨j + 1, val, ?_, by simpa using g2, by rw [g4]; rfl⟩
          simp only [Instr.findNow, hn, g1]
          congr 2
          simp; omega
      · cases h

/-- A map's block, with other entries. -/
def World.putMap (w : World) (b : Nat) (ms : List MapEntry) (ck : Nat) : World := { w with heap := w.heap.setIfInBounds b (.map ⟨ms⟩ ck) }

theorem run_setObj {P : Program} {b : Nat} {ms ms' : List MapEntry} {ck ck' : Nat} (h : w.heap[b]? = some (.map ⟨ms⟩ ck)) : (setObj b (.map ⟨ms'⟩ ck')).run P w = .ok () (World.putMap w b ms' ck') := by
  simp [setObj, Sem.run, h, World.putMap]

theorem map_inplace (fr : FR k X w cx fs a) {r : Ref} {es es' : List (PV × V)} {b : Nat} {ms ms' : List MapEntry} {ck ck' : Nat} (hal : cx.al r) (ho : fs.obj r = some (.map es)) (hb : cx.blk r = some b) (hh : w.heap[b]? = some (.map ⟨ms⟩ ck))
    (hm : MR k w cx es' ms') (ho1 : ∀ (i j : Nat) (m n : MapEntry), i < j → ms'[i]? = some m → ms'[j]? = some n → m.born < n.born) (ho2 : ∀ m ∈ ms', m.born < ck') (hgl : ∀ n, r = .glob n → globO (.map es') = true) :
    FR k X (World.putMap w b ms' ck') cx (fs.setObj r (.map es')) a ∧ Le k.base X w cx (World.putMap w b ms' ck') cx := by
  have hown : cx.own r = some b := by simp [Cx.own, hb]
  have hlt : b < w.heap.size := (fr.own1 r b hown).2.1
  have hsz : (World.putMap w b ms' ck').heap.size = w.heap.size := by simp [World.putMap]
  have hot : ∀ b', b' ≠ b → (World.putMap w b ms' ck').heap[b']? = w.heap[b']? := by
    intro b' hb'
    simp only [World.putMap]
    rw [Array.getElem?_setIfInBounds_ne (Ne.symm hb')]
  have hat : (World.putMap w b ms' ck').heap[b]? = some (.map ⟨ms'⟩ ck') := by
    simp only [World.putMap]
    rw [Array.getElem?_setIfInBounds_self_of_lt hlt]
  have le := fr.le_inplace hown hsz hot ⟨rfl, rfl⟩ fun i v _ hv => by
    simp [cellAt, World.cell?, hh] at hv
  refine ⟨fr.inplace hal ho hown hsz hot le ⟨(fr.obj r _ ho hal).1, b, ms', ck', hb, hat, hm.1, fun i x v m hx hmm => ?_, ho1, ho2⟩ hgl, le⟩
  obtain ⟨h1, h2⟩ := hm.2 i x v m hx hmm
  exact ⟨h1.mono le.smono le.cells, h2.mono le⟩

theorem born_set {ms : List MapEntry} {ck j : Nat} {old new : MapEntry} (h1 : ∀ (i j : Nat) (m n : MapEntry), i < j → ms[i]? = some m → ms[j]? = some n → m.born < n.born) (h2 : ∀ m ∈ ms, m.born < ck)
    (hj : ms[j]? = some old) (hb : new.born = old.born) : (∀ (p q : Nat) (m n : MapEntry), p < q → (ms.set j new)[p]? = some m → (ms.set j new)[q]? = some n → m.born < n.born) ∧ ∀ m ∈ ms.set j new, m.born < ck := by
  have hget : ∀ (p : Nat) (m : MapEntry), (ms.set j new)[p]? = some m → ∃ m0, ms[p]? = some m0 ∧ m.born = m0.born := by
    intro p m hp
    by_cases hpj : j = p
    · subst hpj
      rw [List.getElem?_set_self (List.getElem?_eq_some_iff.1 hj).1] at hp
      simp only [Option.some.injEq] at hp; subst hp
      exact ⟨old, hj, hb⟩
    · rw [List.getElem?_set_ne hpj] at hp
      exact ⟨m, hp, rfl⟩
  refine ⟨fun p q m n hpq hm hn => ?_, fun m hm => ?_⟩
  · obtain ⟨m0, e1, e2⟩ := hget p m hm
    obtain ⟨n0, e3, e4⟩ := hget q n hn
    rw [e2, e4]
    exact h1 p q m0 n0 hpq e1 e3
  · obtain ⟨p, hp⟩ := List.mem_iff_getElem?.1 hm
    obtain ⟨m0, e1, e2⟩ := hget p m hp
    rw [e2]
    exact h2 m0 (List.mem_of_getElem? e1)

theorem run_found {P : Program} {tk : Nat} {ds : TypeDesc} (hds : P.underlying tk = some ds) {c : Value} {ms : List MapEntry} {o : Option (Nat × Value)} (h : Instr.findNow ds c ms 0 = some o) : (Instr.findKey tk c ms).run P w = .ok o w := by
  simp only [Instr.findKey, Sem.run_bind, run_und hds, Result.andThen_ok, h, Sem.run_pure]

theorem setK_glob {x : PV} {v : V} (hv : globA v = true) : ∀ {es es' : List (PV × V)}, globO (.map es) = true → setK x v es = some es' → globO (.map es') = true := by
  intro es
  induction es with
  | nil => intro es' _ h; simp only [setK, Option.some.injEq] at h; subst h; simp [globO, hv]
  | cons e r ih =>
    intro es' hg h
    obtain ⟨y, u⟩ := e
    simp only [globO, List.all_cons, Bool.and_eq_true] at hg ih
    simp only [setK] at h
    split at h
    · simp only [Option.some.injEq] at h; subst h
      simp only [globO, List.all_cons, hv, hg.2, Bool.and_self]
    · simp only [Option.map_eq_some_iff] at h
      obtain ⟨es2, h2, rfl⟩ := h
      simp only [globO, List.all_cons, hg.1, Bool.true_and]
      exact ih hg.2 h2
    · cases h

theorem mapSet_sound (ok : KOk k) (fr : FR k X w cx fs a) {t : Nat} {m key v : V} {c d e : Value} (hm : VR k.sg w cx m c) (hkey : VR k.sg w cx key d) (hv : VR k.sg w cx v e) (h : mapSet k.E fs t m key v = some fs') :
    ∃ w' cx', (Instr.mapUpdate t c d e).run k.E.P w = .ok () w' ∧ FR k X w' cx' fs' a ∧ Le k.base X w cx w' cx' := by
  unfold mapSet at h
  split at h
  · rename_i ti r kp hti
    have ht := ok.ty t ti hti
    split at h
    · rename_i tk te hu
      have hd := und_map ht hu
      split at h
      · rename_i ik es v' hik ho hkv
        split at h
        · rename_i hkok
          simp only [Option.map_eq_some_iff] at h
          obtain ⟨es', hs, rfl⟩ := h
          have hkt := ok.ty tk ik hik
          have hv' := keepS_sound fr hv hkv
          cases hkey with | p _ _ hkr =>
          cases hm with | map _ b hal hb =>
          obtain ⟨b', ms, ck, h1, h2, h3, h4, h5⟩ := fr.map ho hal
          have := hb b' h1; subst this
          obtain ⟨ds, hds⟩ := keyOk_und hkt hkok
          have hgl : ∀ n, r = .glob n → globO (.map es') = true := fun n e => by
            subst e
            exact setK_glob (keepS_glob hkv) (fr.gl n _ ho) hs
          rcases setK_now (v := v') hkt hds hkr hkok h3 0 hs with ⟨g1, rfl⟩ | ⟨j, old, val, g1, g2, g3, rfl⟩
          · have hms : MR k w cx (es ++ [(kp, v')]) (ms ++ [⟨d, e, ck⟩]) := by
              refine ⟨by simp [h3.1], fun i x y n hx hn => ?_⟩
              by_cases hi : i < es.length
              · rw [List.getElem?_append_left hi] at hx
                rw [List.getElem?_append_left (by rw [h3.1]; exact hi)] at hn
                exact h3.2 i x y n hx hn
              · rw [List.getElem?_append_right (by omega)] at hx
                rw [List.getElem?_append_right (by rw [h3.1]; omega)] at hn
                rw [h3.1] at hn
                cases hz : i - es.length with
                | zero =>
                  rw [hz] at hx hn
                  simp only [List.getElem?_cons_zero, Option.some.injEq, Prod.mk.injEq] at hx hn
                  obtain ⟨rfl, rfl⟩ := hx
                  subst hn
                  exact ⟨hkr, hv'⟩
                | succ z => rw [hz] at hx; simp at hx
            obtain ⟨f1, f2⟩ := map_inplace fr (ck' := ck + 1) hal ho h1 h2 hms (fun p q m n hpq hm hn => by
                rw [List.getElem?_append] at hm hn
                split at hm
                · split at hn
                  · exact h4 p q m n hpq hm hn
                  · have hl := h5 m (List.mem_of_getElem? hm)
                    have : n.born = ck := by
                      cases hz : q - ms.length with
                      | zero => rw [hz] at hn; simp at hn; rw [← hn]
                      | succ z => rw [hz] at hn; simp at hn
                    omega
                · have h0 : p - ms.length = 0 := by
                    cases hz : p - ms.length with
                    | zero => rfl
                    | succ z => rw [hz] at hm; simp at hm
                  rw [if_neg (by omega)] at hn
                  cases hz : q - ms.length with
                  | zero => omega
                  | succ z => rw [hz] at hn; simp at hn) (fun m hm => by
                rcases List.mem_append.1 hm with hm | hm
                · have := h5 m hm; omega
                · simp only [List.mem_singleton] at hm; subst hm; simp) hgl
            refine ⟨_, cx, ?_, f1, f2⟩
            unfold Instr.mapUpdate
            simp only [Sem.run_bind, run_und hd, Result.andThen_ok, run_getObj h2, keyOk_check hkt hkr hkok, run_found hds g1]
            have : (⟨ms⟩ : Array MapEntry).push { key := d, val := e, born := ck } = ⟨ms ++ [⟨d, e, ck⟩]⟩ := by apply Array.ext'; simp
            rw [this]
            exact run_setObj h2
          · rw [Nat.zero_add] at g1
            have hjl : j < ms.length := (List.getElem?_eq_some_iff.1 g2).1
            have hms : MR k w cx (es.set j (kp, v')) (ms.set j { old with key := d, val := e }) := by
              refine ⟨by simp [h3.1], fun i x y n hx hn => ?_⟩
              by_cases hij : j = i
              · subst hij
                rw [List.getElem?_set_self (by rw [← h3.1]; exact hjl)] at hx
                rw [List.getElem?_set_self hjl] at hn
                simp only [Option.some.injEq, Prod.mk.injEq] at hx hn
                obtain ⟨rfl, rfl⟩ := hx
                subst hn
                exact ⟨hkr, hv'⟩
              · rw [List.getElem?_set_ne hij] at hx hn
                exact h3.2 i x y n hx hn
            obtain ⟨b1, b2⟩ := born_set (new := { old with key := d, val := e }) h4 h5 g2 rfl
            obtain ⟨f1, f2⟩ := map_inplace fr (ck' := ck) hal ho h1 h2 hms b1 b2 hgl
            refine ⟨_, cx, ?_, f1, f2⟩
            unfold Instr.mapUpdate
            simp only [Sem.run_bind, run_und hd, Result.andThen_ok, run_getObj h2, keyOk_check hkt hkr hkok, run_found hds g1]
            have hg : (⟨ms⟩ : Array MapEntry)[j]? = some old := by simpa using g2
            simp only [hg, Option.map_some, Option.getD_some, Instr.keyThatStays, g3, if_true, Sem.run_pure, Result.andThen_ok]
            have : (⟨ms⟩ : Array MapEntry).modify j (fun x => { x with key := d, val := e }) = ⟨ms.set j { old with key := d, val := e }⟩ := by
              apply Array.ext'
              apply List.ext_getElem?
              intro i
              rw [Array.getElem?_toList, Array.getElem?_modify]
              by_cases hij : j = i
              · subst hij
                rw [List.getElem?_set_self hjl]
                have hg2 : (⟨ms⟩ : Array MapEntry)[j]? = some old := by simpa using g2
                simp [hg2]
              · rw [List.getElem?_set_ne hij]
                simp [hij]
            rw [this]
            exact run_setObj h2
        · cases h
      · cases h
    · cases h
  · cases h

theorem delete_sound (ok : KOk k) (fr : FR k X w cx fs a) {t tk te : Nat} {ti ik : TI} (hti : k.E.T t = some ti) (hu : ti.und = .map tk te) (hik : k.E.T tk = some ik) {r : Ref} {kp : PV} {c d : Value} {es es' : List (PV × V)} {ts : Array TypeId} (hts : ts[0]? = some t) {ty : Nat}
    (hm : VR k.sg w cx (.map r) c) (hkey : VR k.sg w cx (.p kp) d) (ho : fs.obj r = some (.map es)) (hkok : keyOk ik.und kp = true) (hs : delK kp es = some es') :
    ∃ w' cx', (Builtin.delete_ ts ty #[c, d]).run k.E.P w = .ok (.tuple #[]) w' ∧ FR k X w' cx' (fs.setObj r (.map es')) a ∧ Le k.base X w cx w' cx' := by
  have hd := und_map (ok.ty t ti hti) hu
  have hkt := ok.ty tk ik hik
  cases hkey with | p _ _ hkr =>
  cases hm with | map _ b hal hb =>
  obtain ⟨b', ms, ck, h1, h2, h3, h4, h5⟩ := fr.map ho hal
  have := hb b' h1; subst this
  obtain ⟨ds, hds⟩ := keyOk_und hkt hkok
  rcases delK_now hkt hds hkr hkok h3 0 hs with ⟨g1, rfl⟩ | ⟨j, val, g1, g2, rfl⟩
  · obtain ⟨f1, f2⟩ := map_inplace fr (ck' := ck) hal ho h1 h2 h3 h4 h5 (fun n e => by subst e; exact fr.gl n _ ho)
    refine ⟨_, cx, ?_, f1, f2⟩
    unfold Builtin.delete_
    have e0 : (#[Value.map (some b), d] : Array Value)[0]? = some (.map (some b)) := rfl
    have e1 : (#[Value.map (some b), d] : Array Value)[1]? = some d := rfl
    simp only [hts, e0, e1, Sem.run_bind, run_und hd, Result.andThen_ok, run_getObj h2, keyOk_check hkt hkr hkok, run_found hds g1, run_setObj h2, Sem.run_pure]
  · rw [Nat.zero_add] at g1
    have hms : MR k w cx (es.eraseIdx j) (ms.eraseIdx j) := by
      refine ⟨by rw [List.length_eraseIdx, List.length_eraseIdx, h3.1], fun i x y n hx hn => ?_⟩
      rw [List.getElem?_eraseIdx] at hx hn
      split at hx
      · rename_i hi
        rw [if_pos hi] at hn
        exact h3.2 i x y n hx hn
      · rename_i hi
        rw [if_neg hi] at hn
        exact h3.2 _ x y n hx hn
    obtain ⟨f1, f2⟩ := map_inplace fr (ck' := ck) hal ho h1 h2 hms (fun p q m n hpq hm hn => by
      rw [List.getElem?_eraseIdx] at hm hn
      split at hm <;> split at hn
      · exact h4 p q m n hpq hm hn
      · exact h4 p (q + 1) m n (by omega) hm hn
      · omega
      · exact h4 (p + 1) (q + 1) m n (by omega) hm hn) (fun m hm => h5 m (List.mem_of_mem_eraseIdx hm)) (fun n e => by
      subst e
      have g := fr.gl n _ ho
      simp only [globO, List.all_eq_true] at g ⊢
      exact fun x hx => g x (List.mem_of_mem_eraseIdx hx))
    refine ⟨_, cx, ?_, f1, f2⟩
    unfold Builtin.delete_
    have e0 : (#[Value.map (some b), d] : Array Value)[0]? = some (.map (some b)) := rfl
    have e1 : (#[Value.map (some b), d] : Array Value)[1]? = some d := rfl
    have e2 : (⟨ms⟩ : Array MapEntry).eraseIdxIfInBounds j = ⟨ms.eraseIdx j⟩ := by
      apply Array.ext'
      simp [Array.eraseIdxIfInBounds, g2]
    simp only [hts, e0, e1, Sem.run_bind, run_und hd, Result.andThen_ok, run_getObj h2, keyOk_check hkt hkr hkok, run_found hds g1, e2, run_setObj h2, Sem.run_pure]
end
end Go.AE

namespace Go.AE
open Go

section
variable {k : K} {X : XR} {w w' : World} {cx cx' : Cx} {fs fs' : FS} {a : Act}

theorem EN.ofQN (fr : FR k X w cx fs a) {s : Sem Next} {v v' : V} {g : Bool} {offs : List Nat} (h : QN k w cx s v) (hg : growV g offs v fs = some (v', fs')) : EN k X w cx fs' a s v' := by
  obtain ⟨c, w', h1, h2, h3, io, h4⟩ := h
  obtain ⟨cx2, g1, g2, g3⟩ := growV_sound (fr.ext h2 h3 io) h4 hg
  exact ⟨.value c, w', cx2, h1, g1, (fr.le_ext h2 h3 io).trans g2, .inl ⟨c, rfl, g3⟩⟩

theorem arr2 {α : Type} {xs : Array α} {x y : α} (h : xs.toList = [x, y]) : xs = #[x, y] := by
  apply Array.ext'; simpa using h

theorem setObj_env (fs : FS) (r : Ref) (o : Obj) : (fs.setObj r o).env = fs.env := by cases r <;> rfl

theorem storeV_env {ti : TI} {p v : V} (h : storeV fs ti p v = some fs') : fs'.env = fs.env := by
  unfold storeV at h
  split at h
  · split at h
    · split at h
      · split at h
        · simp only [Option.some.injEq] at h; subst h; exact setObj_env _ _ _
        · cases h
      · cases h
    · cases h
  · split at h
    · split at h
      · split at h
        · split at h
          · simp only [Option.some.injEq] at h; subst h; exact setObj_env _ _ _
          · cases h
        · cases h
      · cases h
    · cases h
  · cases h

theorem keep_cells {cs cs' : List V} {l : List Value} (h : CR k w cx cs l) (e : mapO (keepS fs) cs = some cs') : cs'.all glob1 = true := by
  obtain ⟨h1, h2⟩ := mapO_spec e
  rw [List.all_eq_true]
  intro x hx
  obtain ⟨i, hi⟩ := List.mem_iff_getElem?.1 hx
  have hic : i < cs.length := by rw [← h1]; exact (List.getElem?_eq_some_iff.1 hi).1
  have hc : cs[i]? = some cs[i] := by simp [hic]
  have hk := h2 i _ x hc hi
  have hil : i < l.length := by rw [h.1]; exact hic
  have hl : l[i]? = some l[i] := by simp [hil]
  have hv := h.2.2 i _ _ hc hl
  have ho := h.2.1 i _ hl
  generalize cs[i] = v at hk hv
  generalize l[i] = c at hv ho
  unfold keepS at hk
  split at hk
  · simp only [Option.some.injEq] at hk; subst hk; rfl
  · unfold expA at hk
    split at hk
    · cases hv
      simp [Value.oneCell] at ho
    · exact expS_glob hk

/-- No call of a function. -/
def noCall : Op → Bool
  | .call c => match c.callee with
    | .builtin _ => true
    | _ => false
  | _ => true

theorem eV_sound (ok : KOk k) (fr : FR k X w cx fs a) {C : CallF} {A : Ann} {rid i : Nat} {o : Oper} (hn : noCall o.op = true) {v : V} (h : eV k.E C fs A rid i o.op = some (v, fs')) : EN k X w cx fs' a (execOp a.eval o) v := by
  obtain ⟨dst, op, type, pos, after, guard⟩ := o
  simp only at h hn
  unfold eV at h
  split at h
  · -- alloc
    split at h
    · rename_i ti hT
      simp only [Option.map_eq_some_iff] at h
      obtain ⟨⟨cs, fs1⟩, hg, h2⟩ := h
      simp only [Prod.mk.injEq] at h2
      obtain ⟨rfl, rfl⟩ := h2
      exact alloc_sound ok fr hT hg
    · cases h
  · -- box
    rename_i t x
    split at h
    · rename_i ti vx hT hx
      have hvx := fr.eval ok hx
      split at h
      · rename_i hc
        have hcr := hvx.cells hc.2
        split at h
        · split at h
          · rename_i ps hps
            simp only [Option.some.injEq, Prod.mk.injEq] at h
            obtain ⟨rfl, rfl⟩ := h
            simp only [Option.bind_eq_some_iff] at hps
            obtain ⟨cs', hm, hun⟩ := hps
            have h2 := hcr.mapO (fun hv he => expS_sound fr hv he) hm
            rw [unp_spec hun] at h2
            exact imm_sound fr h2
          · split at h
            · rename_i cs hm
              simp only [Option.some.injEq, Prod.mk.injEq] at h
              obtain ⟨rfl, rfl⟩ := h
              exact box_sound fr (hcr.mapO (fun hv he => keepS_sound fr hv he) hm) (fun _ => keep_cells hcr hm)
            · cases h
        · split at h
          · rename_i cs fs1 hg
            obtain ⟨cx1, f1, l1, c1, _⟩ := growL_sound fr hcr hg
            split at h
            · rename_i cs2 hm
              simp only [Option.some.injEq, Prod.mk.injEq] at h
              obtain ⟨rfl, rfl⟩ := h
              have hcr2 : CR k w cx1 cs2 (a.eval x).cells.toList := by
                split at hm
                · exact c1.mapO (fun hv he => keepS_sound f1 hv he) hm
                · simp only [Option.some.injEq] at hm; subst hm; exact c1
              have hgl : hasA A.glob rid i = true → globO (.cells cs2) = true := fun hg => by
                rw [if_pos hg] at hm
                exact keep_cells c1 hm
              obtain ⟨nx, w', cx', g1, g2, g3, g4⟩ := box_sound (t := t) (g := hasA A.glob rid i) f1 hcr2 hgl
              exact ⟨nx, w', cx', g1, g2, l1.trans g3, g4⟩
            · cases h
          · cases h
      · cases h
    · cases h
  · -- store
    rename_i t oa x
    split at h
    · rename_i ti p vx hT hp hx
      split at h
      · cases h
      · rename_i fs1 hst
        obtain ⟨w', cx1, s1, f1, l1⟩ := store_sound ok fr hT (fr.eval ok hp) (fr.eval ok hx) hst
        split at h
        · split at h
          · rename_i kk r
            split at h
            · rename_i cs ho
              split at h
              · rename_i ps hps
                simp only [Option.some.injEq, Prod.mk.injEq] at h
                obtain ⟨rfl, rfl⟩ := h
                simp only [Option.bind_eq_some_iff] at hps
                obtain ⟨cs', hm, hun⟩ := hps
                have henv : fs1.env = fs.env := storeV_env hst
                have hp' : (fs1.env.get kk) = some (.ptr r 0) := by rw [henv]; exact hp
                obtain ⟨cx2, f2, l2⟩ := frzStore_sound f1 ho hm hun hp'
                exact EN.unit s1 f2 (l1.trans l2)
              · cases h
            · cases h
          · cases h
        · simp only [Option.some.injEq, Prod.mk.injEq] at h
          obtain ⟨rfl, rfl⟩ := h
          exact EN.unit s1 f1 l1
    · cases h
  · -- makeSlice
    rename_i t ol oc
    split at h
    · rename_i ti l c hT hl hc
      simp only [Option.bind_eq_some_iff] at hl hc
      obtain ⟨vl, hl1, hl2⟩ := hl
      obtain ⟨vc, hc1, hc2⟩ := hc
      obtain ⟨k1, e1⟩ := idxOf_spec hl2 (fr.eval ok hl1)
      obtain ⟨k2, e2⟩ := idxOf_spec hc2 (fr.eval ok hc1)
      split at h
      · rename_i e hu
        split at h
        · rename_i te hE
          split at h
          · rename_i hcond
            obtain ⟨b0, b1, b2, b3, b4⟩ := hcond
            split at h
            · rename_i hl0
              simp only [Option.some.injEq, Prod.mk.injEq] at h
              obtain ⟨rfl, rfl⟩ := h
              have := makeSlice_sound (k1 := k1) (k2 := k2) (g := hasA A.glob rid i) (p := .any) ok fr hT hu hE b0 b1 b2 b3 b4 (.inl (by rw [hl0]; rfl))
              rw [← e1, ← e2] at this
              subst hl0
              exact this
            · split at h
              · rename_i z hz
                split at h
                · rename_i hzl
                  simp only [Option.some.injEq, Prod.mk.injEq] at h
                  obtain ⟨rfl, rfl⟩ := h
                  have := makeSlice_sound (k1 := k1) (k2 := k2) (g := hasA A.glob rid i) (p := z) ok fr hT hu hE b0 b1 b2 b3 b4 (.inr ⟨hz, hzl⟩)
                  rw [← e1, ← e2] at this
                  exact this
                · cases h
              · cases h
          · cases h
        · cases h
      · cases h
    · cases h
  · -- makeMap
    simp only [Option.some.injEq, Prod.mk.injEq] at h
    obtain ⟨rfl, rfl⟩ := h
    exact makeMap_sound fr
  · -- mapUpdate
    split at h
    · rename_i vm vk vv hm hk hv
      simp only [Option.map_eq_some_iff] at h
      obtain ⟨fs1, hs, h2⟩ := h
      simp only [Prod.mk.injEq] at h2
      obtain ⟨rfl, rfl⟩ := h2
      obtain ⟨w', cx', s1, f1, l1⟩ := mapSet_sound ok fr (fr.eval ok hm) (fr.eval ok hk) (fr.eval ok hv) hs
      exact EN.unit s1 f1 l1
    · cases h
  · -- insert
    split at h
    · rename_i vm vk vv hm hk hv
      simp only [Option.map_eq_some_iff] at h
      obtain ⟨fs1, hs, h2⟩ := h
      simp only [Prod.mk.injEq] at h2
      obtain ⟨rfl, rfl⟩ := h2
      obtain ⟨w', cx', s1, f1, l1⟩ := mapSet_sound ok fr (fr.eval ok hm) (fr.eval ok hk) (fr.eval ok hv) hs
      exact EN.unit s1 f1 l1
    · cases h
  · rename_i c
    obtain ⟨callee, args, argTypes⟩ := c
    simp only at h hn
    split at h
    · -- append
      split at h
      · rename_i x y t tx hargs htys
        have ha : args.map a.eval = #[a.eval x, a.eval y] := by rw [arr2 hargs]; simp
        have ht := arr2 htys
        split at h
        · rename_i vx vy hx hy
          split at h
          · rename_i hk
            obtain ⟨c', w', cx', s1, f1, l1, v1⟩ := append_sound (ty := type) ok fr (fr.eval ok hx) (fr.eval ok hy) hk h
            exact EN.val (s := Builtin.append_ argTypes type (args.map a.eval)) (by rw [ha, ht]; exact s1) f1 l1 v1
          · cases h
        · cases h
      · cases h
    · -- delete
      split at h
      · rename_i m kk t r hargs htys
        have ha : args.map a.eval = #[a.eval m, a.eval kk] := by rw [arr2 hargs]; simp
        split at h
        · rename_i r0 kp ti hm hk hti
          split at h
          · rename_i tk te es hu ho
            split at h
            · rename_i ik hik
              split at h
              · rename_i hkok
                simp only [Option.map_eq_some_iff] at h
                obtain ⟨es', hs, h2⟩ := h
                simp only [Prod.mk.injEq] at h2
                obtain ⟨rfl, rfl⟩ := h2
                have h0' : argTypes[0]? = some t := by
                  rw [← Array.getElem?_toList, htys]; rfl
                obtain ⟨w', cx', s1, f1, l1⟩ := delete_sound (ty := type) ok fr hti hu hik h0' (fr.eval ok hm) (fr.eval ok hk) ho hkok hs
                exact EN.val (s := Builtin.delete_ argTypes type (args.map a.eval)) (by rw [ha]; exact s1) f1 l1 (.p _ _ (.tuple [] [] rfl (by simp)))
              · cases h
            · cases h
          · cases h
        · cases h
      · cases h
    · simp [noCall] at hn
    · cases h
  · cases h

theorem opV_sound (ok : KOk k) (fr : FR k X w cx fs a) {C : CallF} {A : Ann} {rid i : Nat} {o : Oper} (hn : noCall o.op = true) {v : V} (h : opV k.E C fs A rid i o.op = some (v, fs')) : EN k X w cx fs' a (execOp a.eval o) v := by
  rw [opV_eq] at h
  split at h
  · simp only [Option.bind_eq_some_iff] at h
    obtain ⟨v0, h1, h2⟩ := h
    exact EN.ofQN fr (quiet_sound ok fr h1) h2
  · exact eV_sound ok fr hn h
end
end Go.AE

namespace Go.AE
open Go

/-- The context without the frame's own objects. -/
def Cx.globs (cx : Cx) : Cx where
  S := cx.S
  blk r := match r with | .loc _ => none | .glob n => cx.blk (.glob n)
  vec r := match r with | .loc _ => none | .glob n => cx.vec (.glob n)
  al r := match r with | .loc _ => False | .glob n => cx.al (.glob n)
/-- The frame's own objects, and what those that it called made of the others. -/
def Cx.join (cx cx1 : Cx) : Cx where
  S := cx1.S
  blk r := match r with | .loc id => cx.blk (.loc id) | .glob n => cx1.blk (.glob n)
  vec r := match r with | .loc id => cx.vec (.loc id) | .glob n => cx1.vec (.glob n)
  al r := match r with | .loc id => cx.al (.loc id) | .glob n => cx1.al (.glob n)

def fsG (st : St) : FS := ⟨.nil, [], 0, st⟩
def actG : Act := { tmps := #[], defers := [] }

section
variable {k : K} {X X' : XR} {w w' : World} {cx cx1 cx2 cx' : Cx} {fs fs' : FS} {a : Act}

theorem VR.glob1 {sg : Nat → Option Addr} {v : V} {c : Value} (h : VR sg w cx v c) (hg : glob1 v = true) : VR sg w cx.globs v c := by
  have small : ∀ {v : V} {c : Value}, VR sg w cx v c → globby v = true → VR sg w cx.globs v c := by
    intro v c h hg
    cases h with
    | p _ _ h => exact .p _ _ h
    | ptr r off a hal h => cases r with
      | loc id => simp [globby] at hg
      | glob n => exact .ptr _ off a hal h
    | map r b hal h => cases r with
      | loc id => simp [globby] at hg
      | glob n => exact .map _ b hal h
    | _ => simp [globby] at hg
  cases h with
  | p _ _ h => exact .p _ _ h
  | ptr r off a hal h => cases r with
    | loc id => simp [AE.glob1] at hg
    | glob n => exact .ptr _ off a hal h
  | vptr r n i off a hal h => simp [AE.glob1] at hg
  | vec r n a cap hal h => cases r with
    | loc id => simp [AE.glob1] at hg
    | glob m => exact .vec _ n a cap hal h
  | map r b hal h => cases r with
    | loc id => simp [AE.glob1] at hg
    | glob n => exact .map _ b hal h
  | func fn p q x y hx hy ha hb =>
    simp only [AE.glob1, Bool.and_eq_true, List.all_eq_true] at hg
    exact .func fn p q x y hx hy (fun i c v hc hv => small (ha i c v hc hv) (hg.1 c (List.mem_of_getElem? hc))) fun i c v hc hv => small (hb i c v hc hv) (hg.2 c (List.mem_of_getElem? hc))
  | _ => simp [AE.glob1] at hg

theorem VR.globA {sg : Nat → Option Addr} {v : V} {c : Value} (h : VR sg w cx v c) (hg : globA v = true) : VR sg w cx.globs v c := by
  cases v with
  | agg cs =>
    cases h with | agg _ l hl ho hr =>
    simp only [AE.globA, List.all_eq_true] at hg
    exact .agg cs l hl ho fun i c v hc hv => (hr i c v hc hv).glob1 (hg c (List.mem_of_getElem? hc))
  | _ => exact h.glob1 hg

theorem VR.globV {sg : Nat → Option Addr} {v : V} {c : Value} (h : VR sg w cx v c) (hg : globV v = true) : VR sg w cx.globs v c := by
  cases v with
  | tuple cs =>
    cases h with | tuple _ l hl hr =>
    simp only [AE.globV, List.all_eq_true] at hg
    exact .tuple cs l hl fun i c v hc hv => (hr i c v hc hv).globA (hg c (List.mem_of_getElem? hc))
  | _ => exact h.globA hg

theorem OR.globs {n : Nat} {o : Obj} (h : OR k w cx (.glob n) o) (hg : globO o = true) : OR k w cx.globs (.glob n) o := by
  cases o with
  | cells cs =>
    obtain ⟨h1, b, T, l, h2, h3, h4, h5, h6, h7⟩ := h
    simp only [globO, List.all_eq_true] at hg
    exact ⟨h1, b, T, l, h2, h3, h4, h5, fun i c v hc hv => (h6 i c v hc hv).glob1 (hg c (List.mem_of_getElem? hc)), h7⟩
  | vec et es stab => exact h
  | map es =>
    obtain ⟨h1, b, ms, ck, h2, h3, h4, h5, h6, h7⟩ := h
    simp only [globO, List.all_eq_true] at hg
    exact ⟨h1, b, ms, ck, h2, h3, h4, fun i x v m hx hm => ⟨(h5 i x v m hx hm).1, (h5 i x v m hx hm).2.globA (hg (x, v) (List.mem_of_getElem? hx))⟩, h6, h7⟩

/-- What is left of a frame's state without the frame. -/
theorem FR.globs (fr : FR k X w cx fs a) (hlt : ∀ b, X' b → b < w.heap.size) (hown : ∀ n b, cx.own (.glob n) = some b → ¬ X' b) (hres : ∀ r, X'.n r → ∃ n, r = .glob n ∧ X.n r) : FR k X' w cx.globs (fsG fs.st) actG where
  size := fr.size
  pre := fr.pre
  preS := fr.preS
  slt := fr.slt
  obj r o ho hal := by
    cases r with
    | loc id => exact hal.elim
    | glob n => exact (fr.obj (.glob n) o ho hal).globs (fr.gl n o ho)
  non r h := by
    cases r with
    | loc id => exact ⟨rfl, rfl⟩
    | glob n => exact fr.non (.glob n) h
  own1 r b h := by
    cases r with
    | loc id => simp [Cx.own, Cx.globs] at h
    | glob n =>
      have h' : cx.own (.glob n) = some b := h
      obtain ⟨h1, h2, _⟩ := fr.own1 _ b h'
      exact ⟨h1, h2, hown n b h'⟩
  own2 r r' b h h' := by
    cases r with
    | loc id => simp [Cx.own, Cx.globs] at h
    | glob n => cases r' with
      | loc id => simp [Cx.own, Cx.globs] at h'
      | glob m => exact fr.own2 (.glob n) (.glob m) b h h'
  xlt := hlt
  alL id h := h.elim
  alG n h := fr.alG n h
  obL id o h := by simp [fsG, FS.obj, lkp] at h
  obG n o h := fr.obG n o h
  len i v hv := by cases hv
  env i v c hv hc := by cases hv
  defers := rfl
  gl n o h := fr.gl n o h
  res r h := by
    obtain ⟨n, rfl, h⟩ := hres r h
    exact fr.res _ h

/-- The blocks of those that called, and the frame's own. -/
def Cx.mine (cx : Cx) (X : XR) : XR := ⟨fun b => X b ∨ ∃ id, cx.own (.loc id) = some b, fun r => match r with | .loc _ => False | .glob n => X.n (.glob n)⟩

theorem FR.down (fr : FR k X w cx fs a) : FR k (cx.mine X) w cx.globs (fsG fs.st) actG :=
  fr.globs (fun b hb => hb.elim (fr.xlt b) fun ⟨id, h⟩ => (fr.own1 _ b h).2.1) (fun n b hn hb => by
    rcases hb with hb | ⟨id, h⟩
    · exact (fr.own1 _ b hn).2.2 hb
    · have := fr.own2 _ _ b hn h; cases this) fun r h => by
    cases r with
    | loc id => exact h.elim
    | glob n => exact ⟨n, rfl, h⟩

/-- The frame goes on behind a call. -/
theorem FR.up (fr : FR k X w cx fs a) {st' : St} (fc : FR k (cx.mine X) w' cx1 (fsG st') actG) (le : Le k.base (cx.mine X) w cx.globs w' cx1) :
    FR k X w' (cx.join cx1) { fs with st := st' } a ∧ Le k.base X w cx w' (cx.join cx1) := by
  have le' : Le k.base X w cx w' (cx.join cx1) := by
    refine ⟨le.size, fun b hb => le.kept b (hb.imp id .inl), le.cells, le.smono, fun b i h => (le.snew b i h).imp id fun h hx => h (.inl hx), fun r h => ?_, fun r b hal h => ?_, fun r q hal h => ?_, le.io⟩
    · cases r with
      | loc id => exact h
      | glob n => exact le.al (.glob n) h
    · cases r with
      | loc id => exact h
      | glob n => exact le.blk (.glob n) b hal h
    · cases r with
      | loc id => exact ⟨q, h, Nat.le_refl _, fun _ => rfl⟩
      | glob n => exact le.vec (.glob n) q hal h
  refine ⟨⟨fc.size, fc.pre, fc.preS, fc.slt, fun r o ho hal => ?_, fun r h => ?_, fun r b h => ?_, fun r r' b h h' => ?_, fun b hb => fc.xlt b (.inl hb), fun id h => fr.alL id h, fun n h => fc.alG n h, fun id o h => fr.obL id o h, fun n o h => fc.obG n o h, fr.len, fun i v c hv hc => (fr.env i v c hv hc).mono le', fr.defers, fun n o h => fc.gl n o h, fun r h => ?_⟩, le'⟩
  · cases r with
    | loc id =>
      refine (fr.obj (.loc id) o ho hal).mono le' rfl rfl fun b hb => ⟨le.kept b (.inr (.inr ⟨id, hb⟩)), fun i => ⟨fun h => (le.snew b i h).resolve_right fun h => h (.inr ⟨id, hb⟩), le.smono b i⟩⟩
    | glob n =>
      have h := fc.obj (.glob n) o ho hal
      have hl : ∀ {v : V} {c : Value}, VR k.sg w' cx1 v c → VR k.sg w' (cx.join cx1) v c := fun hv => hv.lift (fun _ _ h => h) fun r hr => by
        cases r with
        | loc id => exact absurd (fc.alL id hr) (Nat.not_lt_zero _)
        | glob n => exact ⟨hr, rfl, rfl⟩
      cases o with
      | cells cs =>
        obtain ⟨h1, b, T, l, h2, h3, h4, h5, h6, h7⟩ := h
        exact ⟨h1, b, T, l, h2, h3, h4, h5, fun i c v hc hv => hl (h6 i c v hc hv), h7⟩
      | vec et es stab => exact h
      | map es =>
        obtain ⟨h1, b, ms, ck, h2, h3, h4, h5, h6, h7⟩ := h
        exact ⟨h1, b, ms, ck, h2, h3, h4, fun i x v m hx hm => ⟨(h5 i x v m hx hm).1, hl (h5 i x v m hx hm).2⟩, h6, h7⟩
  · cases r with
    | loc id => exact fr.non (.loc id) h
    | glob n => exact fc.non (.glob n) h
  · cases r with
    | loc id =>
      have h' : cx.own (.loc id) = some b := h
      obtain ⟨h1, h2, h3⟩ := fr.own1 _ b h'
      exact ⟨h1, Nat.lt_of_lt_of_le h2 le.size, h3⟩
    | glob n =>
      have h' : cx1.own (.glob n) = some b := h
      obtain ⟨h1, h2, h3⟩ := fc.own1 _ b h'
      exact ⟨h1, h2, fun hx => h3 (.inl hx)⟩
  · cases r with
    | loc id => cases r' with
      | loc id' => exact fr.own2 (.loc id) (.loc id') b h h'
      | glob n =>
        have g : cx.own (.loc id) = some b := h
        have g' : cx1.own (.glob n) = some b := h'
        exact ((fc.own1 _ b g').2.2 (.inr ⟨id, g⟩)).elim
    | glob n => cases r' with
      | loc id =>
        have g : cx1.own (.glob n) = some b := h
        have g' : cx.own (.loc id) = some b := h'
        exact ((fc.own1 _ b g).2.2 (.inr ⟨id, g'⟩)).elim
      | glob m => exact fc.own2 (.glob n) (.glob m) b h h'
  · cases r with
    | loc id => exact fr.res (.loc id) h
    | glob n => exact fc.res (.glob n) h

theorem VR.up {st' : St} (fc : FR k (cx.mine X) w' cx1 (fsG st') actG) {v : V} {c : Value} (h : VR k.sg w' cx1 v c) : VR k.sg w' (cx.join cx1) v c :=
  h.lift (fun _ _ h => h) fun r hr => by
    cases r with
    | loc id => exact absurd (fc.alL id hr) (Nat.not_lt_zero _)
    | glob n => exact ⟨hr, rfl, rfl⟩

/-- Arguments, side by side. -/
def AR (k : K) (w : World) (cx : Cx) (vs : List V) (cs : List Value) : Prop := cs.length = vs.length ∧ ∀ (i : Nat) (v : V) (c : Value), vs[i]? = some v → cs[i]? = some c → VR k.sg w cx v c

/-- How a call ends well. -/
def Post (k : K) (X : XR) (w : World) (cx : Cx) (v : V) (st' : St) (c : Value) (w' : World) : Prop :=
  ∃ cx', FR k X w' cx' (fsG st') actG ∧ Le k.base X w cx w' cx' ∧ VR k.sg w' cx' v c

/-- What the evaluator says of calls holds. -/
def CallsOk (k : K) (C : CallF) : Prop := ∀ (f : Nat) (vs : List V) (st : St) (v : V) (st' : St), C f vs st = some (v, st') → ∀ (X : XR) (w : World) (cx : Cx) (cs : List Value), FR k X w cx (fsG st) actG → AR k w cx vs cs →
  ((callFunc f ⟨cs⟩).run k.E.P w = .ok (.enter f ⟨cs⟩) w ∧ Calls k.E.P f ⟨cs⟩ w fun e w' => ∃ c, e = .returned c ∧ Post k X w cx v st' c w') ∨
  ∃ c w', (callFunc f ⟨cs⟩).run k.E.P w = .ok (.value c) w' ∧ Post k X w cx v st' c w'
end
end Go.AE

namespace Go.AE
open Go

section
variable {k : K} {X X' : XR} {w w' : World} {cx cx1 cx2 cx' : Cx} {fs fs' : FS} {a : Act}

theorem FR.put (fr : FR k X w cx fs a) {v : V} {c : Value} (h : VR k.sg w cx v c) (dst : Option Nat) : FR k X w cx (fs.put dst v) (a.put dst c) := by
  cases dst with
  | none => exact fr
  | some d =>
    refine ⟨fr.size, fr.pre, fr.preS, fr.slt, fun r o ho hal => ?_, fun r h => ?_, fr.own1, fr.own2, fr.xlt, fr.alL, fr.alG, fun id o ho => ?_, fun n o ho => ?_, fun i u hu => ?_, fun i u e hu he => ?_, fr.defers, fun n o ho => ?_, fun r h => ⟨(fr.res r h).1, by cases r <;> exact (fr.res _ h).2⟩⟩
    · exact fr.obj r o (by cases r <;> exact ho) hal
    · exact fr.non r h
    · exact fr.obL id o ho
    · exact fr.obG n o ho
    · simp only [FS.put, Act.put] at hu ⊢
      rw [Array.size_setIfInBounds]
      rw [Tr.get_set] at hu
      split at hu
      · cases hg : fs.env.get i with
        | none => rw [hg] at hu; cases hu
        | some u0 => exact fr.len i u0 hg
      · exact fr.len i u hu
    · simp only [FS.put, Act.put] at hu he
      rw [Array.getElem?_setIfInBounds] at he
      rw [Tr.get_set] at hu
      by_cases hdi : d = i
      · subst hdi
        simp only [if_true] at hu he
        cases hg : fs.env.get d with
        | none => rw [hg] at hu; cases hu
        | some u0 =>
          rw [hg] at hu
          simp only [Option.map_some, Option.some.injEq] at hu
          subst hu
          split at he
          · simp only [Option.some.injEq] at he; subst he; exact h
          · cases he
      · simp only [hdi, if_false] at hu he
        exact fr.env i u e hu he
    · exact fr.gl n o ho

theorem want_sound (fr : FR k X w cx fs a) {ops : Array Oper} {o : Oper} {b : Bool} (h : wantV fs.env ops.toList o = some b) : Region.wanted o (yielded ops a.tmps) = b := by
  unfold wantV at h
  unfold Region.wanted
  split at h
  · rename_i hg
    simp only [Option.some.injEq] at h; subst h
    rw [hg]
  · rename_i j want hg
    rw [hg]
    simp only
    split at h
    · rename_i q hq
      rw [Array.getElem?_toList] at hq
      split at h
      · rename_i d hd
        have get : ∀ v, (fs.env.get d) = some v → ∃ c, a.tmps[d]? = some c ∧ VR k.sg w cx v c := fun v hv => by
          have hdl : d < a.tmps.size := fr.len d v hv
          exact ⟨a.tmps[d], by simp [hdl], fr.env d v _ hv (by simp [hdl])⟩
        split at h
        · rename_i b' hb
          simp only [Option.some.injEq] at h; subst h
          obtain ⟨c, hc, hv⟩ := get _ hb
          cases hv with | p _ _ hv =>
          cases hv
          have : yielded ops a.tmps j = some b' := by simp [yielded, hq, hd, hc]
          rw [this]
          cases b' <;> cases want <;> rfl
        · rename_i hb
          simp only [Option.some.injEq] at h; subst h
          obtain ⟨c, hc, hv⟩ := get _ hb
          cases hv with | p _ _ hv =>
          cases hv
          have : yielded ops a.tmps j = none := by simp [yielded, hq, hd, hc]
          rw [this]
          cases want <;> rfl
        · cases h
      · cases h
    · cases h

theorem AR.append {vs us : List V} {cs ds : List Value} (h : AR k w cx vs cs) (g : AR k w cx us ds) : AR k w cx (vs ++ us) (cs ++ ds) := by
  refine ⟨by simp [h.1, g.1], fun i v c hv hc => ?_⟩
  rw [List.getElem?_append] at hv hc
  rw [h.1] at hc
  split at hv
  · rename_i hi
    rw [if_pos hi] at hc
    exact h.2 i v c hv hc
  · rename_i hi
    rw [if_neg hi] at hc
    exact g.2 _ v c hv hc

theorem AR.globs {vs : List V} {cs : List Value} (h : AR k w cx vs cs) (hg : vs.all globA = true) : AR k w cx.globs vs cs :=
  ⟨h.1, fun i v c hv hc => (h.2 i v c hv hc).globA (List.all_eq_true.1 hg v (List.mem_of_getElem? hv))⟩

theorem globby_A {v : V} (h : globby v = true) : globA v = true := by
  unfold globby at h
  split at h <;> first | rfl | cases h

theorem foldl_env {α : Type} {g : FS → α → FS} (h : ∀ fs x, (g fs x).env = fs.env) : ∀ (l : List α) (fs : FS), (l.foldl g fs).env = fs.env := by
  intro l
  induction l with
  | nil => intro fs; rfl
  | cons x r ih => intro fs; rw [List.foldl_cons, ih, h]
theorem frzR_env (fs : FS) (r : Ref) : (frzR fs r).env = fs.env := by
  unfold frzR
  split
  · split
    · rfl
    · exact setObj_env _ _ _
  · rfl
theorem frz1_env (fs : FS) (v : V) : (frz1 fs v).env = fs.env := by cases v <;> first | rfl | exact frzR_env _ _
theorem frzA_env (fs : FS) (v : V) : (frzA fs v).env = fs.env := by
  unfold frzA
  split
  · exact foldl_env frz1_env _ _
  · exact frz1_env _ _

/-- A call's run, as the step sees it. -/
theorem call_sound (ok : KOk k) {C : CallF} (cok : CallsOk k C) (fr : FR k X w cx fs a) {A : Ann} {rid i : Nat} {o : Oper} {c : Call} {f : Operand} (ho : o.op = .call c) (hf : c.callee = .value f) {v : V} (h : eV k.E C fs A rid i o.op = some (v, fs'))
    {next : Act → World → Prop} {Q : Exit → Act → World → Prop} (hn : ∀ c w' cx', FR k X w' cx' fs' a → Le k.base X w cx w' cx' → VR k.sg w' cx' v c → next (a.put o.dst c) w') : o.wp k.E.P a w next Q := by
  rw [ho] at h
  unfold eV at h
  simp only [hf] at h
  split at h
  · cases h
  rename_i vs hvs
  obtain ⟨cx1, f1, l1⟩ := Calm.fold (k := k) (X := X) (w := w) (a := a) (fun x => frzA_calm x) vs fr
  have henv : (vs.foldl frzA fs).env = fs.env := foldl_env frzA_env vs fs
  obtain ⟨n1, n2⟩ := mapO_eval ok fr hvs
  have main : ∀ (g : Nat) (p q : List V) (x y : List Value) (args : List V), a.eval f = .func (.func g) ⟨x⟩ ⟨y⟩ → AR k w cx1 p x → AR k w cx1 q y → p.all globA = true → q.all globA = true → mapO (expA (vs.foldl frzA fs)) vs = some args →
      ∀ st', C g (p ++ args ++ q) (vs.foldl frzA fs).st = some (v, st') → fs' = { vs.foldl frzA fs with st := st' } → o.wp k.E.P a w next Q := by
    intro g p q x y args hfe hp hq gp gq hargs st' hC hfs
    subst hfs
    have har : AR k w cx1 args (c.args.toList.map a.eval) := by
      obtain ⟨m1, m2⟩ := mapO_spec hargs
      refine ⟨by rw [m1, n1], fun j u d hu hd => ?_⟩
      have hj : j < vs.length := by rw [← m1]; exact (List.getElem?_eq_some_iff.1 hu).1
      have hvj : vs[j]? = some vs[j] := by simp [hj]
      exact expA_sound f1 ((n2 j _ d hvj hd).mono l1) (m2 j _ u hvj hu)
    have gargs : args.all globA = true := mapO_all expA_glob hargs
    have hAR : AR k w cx1.globs (p ++ args ++ q) (x ++ c.args.toList.map a.eval ++ y) := ((hp.append har).append hq).globs (by simp only [List.all_append, gp, gargs, gq, Bool.and_self])
    have hrun : (execOp a.eval o).run k.E.P w = (callFunc g ⟨x ++ c.args.toList.map a.eval ++ y⟩).run k.E.P w := by
      have e1 : (c.args.map a.eval) = ⟨c.args.toList.map a.eval⟩ := map_args
      unfold execOp
      simp only [ho, resolve, hf, hfe, Deferred.ofValue, Sem.run_bind, Sem.run_pure, Result.andThen_ok, invoke, e1]
      congr 2
      apply Array.ext'; simp
    rcases cok g _ _ v st' hC (cx1.mine X) w cx1.globs _ f1.down hAR with ⟨r1, r2⟩ | ⟨cv, w', r1, cx2, g1, g2, g3⟩
    · unfold Oper.wp
      rw [hrun, r1, Oper.upon_enter]
      refine r2.mono fun e w' he => ?_
      obtain ⟨cv, rfl, cx2, g1, g2, g3⟩ := he
      obtain ⟨u1, u2⟩ := f1.up g1 g2
      exact hn cv w' _ u1 (l1.trans u2) (g3.up g1)
    · unfold Oper.wp
      rw [hrun, r1, Oper.upon_value]
      obtain ⟨u1, u2⟩ := f1.up g1 g2
      exact hn cv w' _ u1 (l1.trans u2) (g3.up g1)
  split at h
  · rename_i g p q args hfe hargs
    simp only [Option.map_eq_some_iff] at h
    obtain ⟨⟨v', st'⟩, hC, h2⟩ := h
    simp only [Prod.mk.injEq] at h2
    obtain ⟨rfl, rfl⟩ := h2
    rw [henv] at hfe
    have hv := (fr.eval ok hfe).mono l1
    generalize hc : a.eval f = cf at hv
    cases hv with | p _ _ hv =>
    cases hv with | func _ _ _ x y hx hy ha hb =>
    refine main g (p.map .p) (q.map .p) x y args hc ⟨by simpa using hx, fun i u d hu hd => ?_⟩ ⟨by simpa using hy, fun i u d hu hd => ?_⟩ (by simp [List.all_map, Function.comp_def, globA, glob1]) (by simp [List.all_map, Function.comp_def, globA, glob1]) hargs st' hC rfl
    · simp only [List.getElem?_map, Option.map_eq_some_iff] at hu
      obtain ⟨u0, hu0, rfl⟩ := hu
      exact .p _ _ (ha i u0 d hu0 hd)
    · simp only [List.getElem?_map, Option.map_eq_some_iff] at hu
      obtain ⟨u0, hu0, rfl⟩ := hu
      exact .p _ _ (hb i u0 d hu0 hd)
  · rename_i g p q args hfe hargs
    split at h
    · rename_i hg
      simp only [Bool.and_eq_true] at hg
      simp only [Option.map_eq_some_iff] at h
      obtain ⟨⟨v', st'⟩, hC, h2⟩ := h
      simp only [Prod.mk.injEq] at h2
      obtain ⟨rfl, rfl⟩ := h2
      rw [henv] at hfe
      have hv := (fr.eval ok hfe).mono l1
      generalize hc : a.eval f = cf at hv
      cases hv with | func _ _ _ x y hx hy ha hb =>
      exact main g p q x y args hc ⟨hx, ha⟩ ⟨hy, hb⟩ (List.all_eq_true.2 fun u hu => globby_A (List.all_eq_true.1 hg.1 u hu)) (List.all_eq_true.2 fun u hu => globby_A (List.all_eq_true.1 hg.2 u hu)) hargs st' hC rfl
    · cases h
  · cases h

theorem op_sound (ok : KOk k) {C : CallF} (cok : CallsOk k C) (fr : FR k X w cx fs a) {A : Ann} {rid i : Nat} {o : Oper} {v : V} (h : opV k.E C fs A rid i o.op = some (v, fs'))
    {next : Act → World → Prop} {Q : Exit → Act → World → Prop} (hn : ∀ c w' cx', FR k X w' cx' fs' a → Le k.base X w cx w' cx' → VR k.sg w' cx' v c → next (a.put o.dst c) w') : o.wp k.E.P a w next Q := by
  by_cases hc : noCall o.op = true
  · obtain ⟨nx, w', cx', h1, h2, h3, h4⟩ := opV_sound ok fr hc h
    unfold Oper.wp
    rw [h1]
    rcases h4 with ⟨c, rfl, hv⟩ | ⟨rfl, rfl⟩
    · rw [Oper.upon_value]
      exact hn c w' cx' h2 h3 hv
    · rw [Oper.upon_skip]
      exact hn undef w' cx' h2 h3 (.p _ _ (.tuple [] [] rfl (by simp)))
  · cases hop : o.op with
    | call c =>
      cases hcl : c.callee with
      | builtin b => simp [noCall, hop, hcl] at hc
      | value f =>
        have hq : isQuiet o.op = false := by rw [hop]; cases c; simp only at hcl; subst hcl; rfl
        rw [opV_eq] at h
        rw [hq] at h
        simp only [Bool.false_eq_true, if_false] at h
        exact call_sound ok cok fr hop hcl h hn
      | invoke r n =>
        have hq : isQuiet o.op = false := by rw [hop]; cases c; simp only at hcl; subst hcl; rfl
        rw [opV_eq] at h
        rw [hq] at h
        simp only [Bool.false_eq_true, if_false] at h
        rw [hop] at h
        unfold eV at h
        simp only [hcl] at h
        cases h
    | _ => simp [noCall, hop] at hc

theorem step_sound (ok : KOk k) {C : CallF} (cok : CallsOk k C) (fr : FR k X w cx fs a) {A : Ann} {rid i : Nat} {ops : Array Oper} {o : Oper} (h : stepV k.E C A rid ops.toList i o fs = some fs')
    {next : Act → World → Prop} {Q : Exit → Act → World → Prop} (hn : ∀ a' w' cx', FR k X w' cx' fs' a' → Le k.base X w cx w' cx' → next a' w') :
    if Region.wanted o (yielded ops a.tmps) then o.wp k.E.P a w next Q ∨ (o.asks k.E.P a w ∧ LetsOut Q) else next (a.put o.dst undef) w := by
  unfold stepV at h
  split at h
  · rename_i hw
    rw [want_sound fr hw, if_pos rfl]
    split at h
    · rename_i v fs1 hop
      simp only [Option.some.injEq] at h; subst h
      exact .inl (op_sound ok cok fr hop fun c w' cx' f1 l1 v1 => hn _ w' cx' (f1.put v1 o.dst) l1)
    · cases h
  · rename_i hw
    rw [want_sound fr hw]
    simp only [Option.some.injEq] at h; subst h
    simp only [Bool.false_eq_true, if_false]
    exact hn _ w cx (fr.put (.p _ _ (.tuple [] [] rfl (by simp))) o.dst) (Le.refl _ _ _ _)
  · cases h

theorem run_sound (ok : KOk k) {C : CallF} (cok : CallsOk k C) {A : Ann} {rid : Nat} {ops : Array Oper} {Q : Exit → Act → World → Prop} : ∀ (rest : List Oper) (i : Nat), ops.toList.drop i = rest → ∀ {w : World} {cx : Cx} {fs : FS} {a : Act}, FR k X w cx fs a →
    runV k.E C A rid ops.toList i rest fs = some fs' → (∀ a' w' cx', FR k X w' cx' fs' a' → Le k.base X w cx w' cx' → Q .normal a' w') → wpOps k.E.P ops Q ((List.range' i rest.length)) a w := by
  intro rest
  induction rest with
  | nil =>
    intro i _ w cx fs a fr h hQ
    simp only [runV, Option.some.injEq] at h; subst h
    exact hQ a w cx fr (Le.refl _ _ _ _)
  | cons o r ih =>
    intro i hd w cx fs a fr h hQ
    simp only [runV] at h
    split at h
    · rename_i fs1 hs
      have hi : ops[i]? = some o := by
        rw [← Array.getElem?_toList]
        have : (ops.toList.drop i)[0]? = some o := by rw [hd]; rfl
        simpa using this
      have hd' : ops.toList.drop (i + 1) = r := by
        rw [← List.drop_drop, hd]; rfl
      simp only [List.length_cons, List.range'_succ, wpOps, hi]
      exact step_sound ok cok fr hs fun a' w' cx' f1 l1 => ih (i + 1) hd' f1 h fun a2 w2 cx2 f2 l2 => hQ a2 w2 cx2 f2 (l1.trans l2)
    · cases h

theorem region_sound (ok : KOk k) {C : CallF} (cok : CallsOk k C) {A : Ann} {rid : Nat} {ops : Array Oper} {Q : Exit → Act → World → Prop} (fr : FR k X w cx fs a) (h : runV k.E C A rid ops.toList 0 ops.toList fs = some fs')
    (hQ : ∀ a' w' cx', FR k X w' cx' fs' a' → Le k.base X w cx w' cx' → Q .normal a' w') : (Code.region rid ops false).wp k.E.P Q a w := by
  refine wp_region ?_
  have := run_sound (rid := rid) ok cok (Q := Q) ops.toList 0 rfl fr h hQ
  rw [List.range_eq_range']
  simpa using this
end
end Go.AE

namespace Go.AE
open Go

section
variable {k : K} {X X' : XR} {w w' : World} {cx cx1 cx2 cx' : Cx} {fs fs' : FS} {a : Act}

theorem Le.globs (le : Le k.base X w cx w' cx') : Le k.base X w cx.globs w' cx'.globs := by
  refine ⟨le.size, le.kept, le.cells, le.smono, le.snew, fun r h => ?_, fun r b h h' => ?_, fun r q h h' => ?_, le.io⟩
  · cases r with
    | loc id => exact h
    | glob n => exact le.al (.glob n) h
  · cases r with
    | loc id => exact h.elim
    | glob n => exact le.blk (.glob n) b h h'
  · cases r with
    | loc id => exact h.elim
    | glob n => exact le.vec (.glob n) q h h'

/-- The context with the frame's first objects alone. -/
def Cx.below (cx : Cx) (n : Nat) : Cx where
  S := cx.S
  blk r := match r with | .loc id => if id < n then cx.blk (.loc id) else none | .glob m => cx.blk (.glob m)
  vec r := match r with | .loc id => if id < n then cx.vec (.loc id) else none | .glob m => cx.vec (.glob m)
  al r := match r with | .loc id => id < n ∧ cx.al (.loc id) | .glob m => cx.al (.glob m)

theorem Cx.below_at {n : Nat} {r : Ref} (h : refLt n r = true) : (cx.below n).blk r = cx.blk r ∧ (cx.below n).vec r = cx.vec r ∧ (cx.al r → (cx.below n).al r) := by
  cases r with
  | loc id =>
    have h : id < n := by simpa [refLt] using h
    simp [Cx.below, h]
  | glob m => exact ⟨rfl, rfl, id⟩

theorem VR.lt1 {sg : Nat → Option Addr} {n : Nat} {v : V} {c : Value} (h : VR sg w cx v c) (hg : vLt1 n v = true) : VR sg w (cx.below n) v c := by
  cases h with
  | p _ _ h => exact .p _ _ h
  | ptr r off a hal h =>
    obtain ⟨e1, e2, e3⟩ := cx.below_at (n := n) (r := r) hg
    exact .ptr r off a (e3 hal) fun b hb => h b (by rw [← e1]; exact hb)
  | vptr r m i off a hal h =>
    obtain ⟨e1, e2, e3⟩ := cx.below_at (n := n) (r := r) hg
    exact .vptr r m i off a (e3 hal) fun q hq => h q (by rw [← e2]; exact hq)
  | vec r m a cap hal h =>
    obtain ⟨e1, e2, e3⟩ := cx.below_at (n := n) (r := r) hg
    exact .vec r m a cap (e3 hal) fun q hq => h q (by rw [← e2]; exact hq)
  | map r b hal h =>
    obtain ⟨e1, e2, e3⟩ := cx.below_at (n := n) (r := r) hg
    exact .map r b (e3 hal) fun b' hb => h b' (by rw [← e1]; exact hb)
  | _ => simp [vLt1] at hg

theorem VR.lt {sg : Nat → Option Addr} {n : Nat} {v : V} {c : Value} (h : VR sg w cx v c) (hg : vLt n v = true) : VR sg w (cx.below n) v c := by
  cases v with
  | agg cs =>
    cases h with | agg _ l hl ho hr =>
    simp only [vLt, List.all_eq_true] at hg
    exact .agg cs l hl ho fun i c v hc hv => (hr i c v hc hv).lt1 (hg c (List.mem_of_getElem? hc))
  | func fn p q =>
    cases h with | func _ _ _ x y hx hy ha hb =>
    simp only [vLt, Bool.and_eq_true, List.all_eq_true] at hg
    exact .func fn p q x y hx hy (fun i c v hc hv => (ha i c v hc hv).lt1 (hg.1 c (List.mem_of_getElem? hc))) fun i c v hc hv => (hb i c v hc hv).lt1 (hg.2 c (List.mem_of_getElem? hc))
  | tuple cs =>
    cases h with | tuple _ l hl hr =>
    simp only [vLt, List.all_eq_true] at hg
    exact .tuple cs l hl fun i c v hc hv => (hr i c v hc hv).lt1 (hg c (List.mem_of_getElem? hc))
  | _ => exact h.lt1 hg

theorem VR.globs_below {sg : Nat → Option Addr} {n : Nat} {v : V} {c : Value} (h : VR sg w cx.globs v c) : VR sg w (cx.below n) v c :=
  h.lift (fun _ _ h => h) fun r hr => by
    cases r with
    | loc id => exact hr.elim
    | glob m => exact ⟨hr, rfl, rfl⟩

theorem lkp_filter (l : List (Nat × Obj)) (n i : Nat) : lkp (l.filter fun q => decide (q.1 < n)) i = if i < n then lkp l i else none := by
  induction l with
  | nil => simp [lkp]
  | cons p r ih =>
    obtain ⟨m, x⟩ := p
    simp only [List.filter_cons]
    split
    · rename_i hm
      have hm : m < n := by simpa using hm
      simp only [lkp, ih]
      by_cases hmi : m = i
      · subst hmi; simp [hm]
      · simp [hmi]
    · rename_i hm
      have hm : ¬ m < n := by simpa using hm
      simp only [lkp, ih]
      by_cases hmi : m = i
      · subst hmi; simp [hm]
      · simp [hmi]

theorem mem_of_lkp {l : List (Nat × Obj)} {i : Nat} {o : Obj} (h : lkp l i = some o) : (i, o) ∈ l := by
  induction l with
  | nil => simp [lkp] at h
  | cons p r ih =>
    obtain ⟨m, x⟩ := p
    simp only [lkp] at h
    split at h
    · rename_i hm
      subst hm
      simp only [Option.some.injEq] at h; subst h
      simp
    · exact List.mem_cons_of_mem _ (ih h)

theorem clear_VR (fr : FR k X w cx fs a) (cl : List Nat) : (clearE cl fs.env).dom fs.env ∧ ∀ (i : Nat) (v : V) (c : Value), ((clearE cl fs.env).get i) = some v → a.tmps[i]? = some c → VR k.sg w cx v c := by
  have main : ∀ (cl : List Nat) (env : Tr), (∀ (i : Nat) (v : V) (c : Value), (env.get i) = some v → a.tmps[i]? = some c → VR k.sg w cx v c) →
      (clearE cl env).dom env ∧ ∀ (i : Nat) (v : V) (c : Value), ((clearE cl env).get i) = some v → a.tmps[i]? = some c → VR k.sg w cx v c := by
    intro cl
    induction cl with
    | nil => exact fun env h => ⟨Tr.dom_refl env, h⟩
    | cons t r ih =>
      intro env h
      have := ih (env.set t anyV) (fun i v c hv hc => by
        rw [Tr.get_set] at hv
        split at hv
        · cases hg : env.get i with
          | none => rw [hg] at hv; cases hv
          | some u =>
            rw [hg] at hv
            simp only [Option.map_some, Option.some.injEq] at hv; subst hv; exact .p _ _ (.any _)
        · exact h i v c hv hc)
      exact ⟨this.1.trans (Tr.dom_set env t anyV), this.2⟩
  exact main cl fs.env fr.env

theorem Tr.dom.len {t s : Tr} (h : t.dom s) {n : Nat} (g : ∀ i v, s.get i = some v → i < n) : ∀ i v, t.get i = some v → i < n := fun i v hv => by
  have := h i
  rw [hv] at this
  cases hs : s.get i with
  | none => rw [hs] at this; simp at this
  | some u => exact g i u hs

theorem head_sound (hX : ∀ id, ¬ X.n (.loc id)) (fr : FR k X w cx fs a) {nid : Nat} {cl : List Nat} (h : headV nid cl fs = some fs') : ∃ cx', FR k X w cx' fs' a ∧ Le k.base X w cx.globs w cx'.globs := by
  unfold headV at h
  simp only at h
  split at h
  · rename_i hc
    simp only [Bool.and_eq_true, List.all_eq_true] at hc
    obtain ⟨he, hl⟩ := hc
    simp only [Option.some.injEq] at h; subst h
    obtain ⟨c1, c2⟩ := clear_VR fr cl
    have hobL : ∀ id o, lkp (fs.locs.filter fun q => decide (q.1 < nid)) id = some o → id < nid ∧ fs.obj (.loc id) = some o ∧ oLt nid o = true := fun id o ho => by
      have hm := hl _ (mem_of_lkp ho)
      rw [lkp_filter] at ho
      split at ho
      · rename_i hi; exact ⟨hi, ho, hm⟩
      · cases ho
    have own_of : ∀ r b, (cx.below nid).own r = some b → cx.own r = some b := by
      intro r b h
      cases r with
      | glob m => exact h
      | loc id =>
        by_cases hi : id < nid
        · simpa [Cx.own, Cx.below, hi] using h
        · simp [Cx.own, Cx.below, hi] at h
    refine ⟨cx.below nid, ⟨fr.size, fr.pre, fr.preS, fr.slt, fun r o ho hal => ?_, fun r h => ?_, fun r b h => fr.own1 r b (own_of r b h), fun r r' b h h' => fr.own2 r r' b (own_of r b h) (own_of r' b h'), fr.xlt, fun id h => h.1, fr.alG, fun id o ho => (hobL id o ho).1, fr.obG, c1.len fr.len, fun i v c hv hcc => ?_, fr.defers, fr.gl, fun r h => ?_⟩, ?_⟩
    · cases r with
      | loc id =>
        obtain ⟨hi, ho', hlt⟩ := hobL id o ho
        have hor := fr.obj (.loc id) o ho' hal.2
        cases o with
        | cells cs =>
          obtain ⟨h1, b, T, l, h2, h3, h4, h5, h6, h7⟩ := hor
          simp only [oLt, List.all_eq_true] at hlt
          exact ⟨by simp [Cx.below, hi, h1], b, T, l, by simp [Cx.below, hi, h2], h3, h4, h5, fun i c v hc hv => (h6 i c v hc hv).lt (hlt c (List.mem_of_getElem? hc)), h7⟩
        | vec et es stab =>
          obtain ⟨h1, q, h2, h3⟩ := hor
          exact ⟨by simp [Cx.below, hi, h1], q, by simp [Cx.below, hi, h2], h3⟩
        | map es =>
          obtain ⟨h1, b, ms, ck, h2, h3, h4, h5, h6, h7⟩ := hor
          simp only [oLt, List.all_eq_true] at hlt
          exact ⟨by simp [Cx.below, hi, h1], b, ms, ck, by simp [Cx.below, hi, h2], h3, h4, fun i x v m hx hm => ⟨(h5 i x v m hx hm).1, (h5 i x v m hx hm).2.lt (hlt (x, v) (List.mem_of_getElem? hx))⟩, h6, h7⟩
      | glob n =>
        have hg := (fr.obj (.glob n) o ho hal).globs (fr.gl n o ho)
        cases o with
        | cells cs =>
          obtain ⟨h1, b, T, l, h2, h3, h4, h5, h6, h7⟩ := hg
          exact ⟨h1, b, T, l, h2, h3, h4, h5, fun i c v hc hv => (h6 i c v hc hv).globs_below, h7⟩
        | vec et es stab => exact hg
        | map es =>
          obtain ⟨h1, b, ms, ck, h2, h3, h4, h5, h6, h7⟩ := hg
          exact ⟨h1, b, ms, ck, h2, h3, h4, fun i x v m hx hm => ⟨(h5 i x v m hx hm).1, (h5 i x v m hx hm).2.globs_below⟩, h6, h7⟩
    · cases r with
      | loc id =>
        by_cases hi : id < nid
        · have := fr.non (.loc id) fun e => h ⟨hi, e⟩
          simpa [Cx.below, hi] using this
        · simp [Cx.below, hi]
      | glob n => exact fr.non (.glob n) h
    · exact (c2 i v c hv hcc).lt (Tr.all_get he i v hv)
    · cases r with
      | loc id => exact (hX id h).elim
      | glob n => exact fr.res _ h
    · refine ⟨Nat.le_refl _, fun _ _ => rfl, fun _ _ _ _ h => h, fun _ _ h => h, fun _ _ h => .inl h, fun r h => ?_, fun r b _ h => ?_, fun r q _ h => ⟨q, ?_, Nat.le_refl _, fun _ => rfl⟩, .refl w⟩ <;> cases r <;> exact h
  · cases h

/-- Regions whose order is drawn: to be shown. -/
def DrawOk (k : K) (C : CallF) (A : Ann) : Prop := ∀ (id : Nat) (ops : Array Oper) (X : XR) (w : World) (cx : Cx) (fs : FS) (a : Act) (fs' : FS) (Q : Exit → Act → World → Prop), textOk ops.toList = true → FR k X w cx fs a → drawV k.E C A id ops.toList fs = some fs' →
  (∀ a' w' cx', FR k X w' cx' fs' a' → Le k.base X w cx.globs w' cx'.globs → Q .normal a' w') → (Code.region id ops true).wp k.E.P Q a w

def Ex.out : Ex → Exit
  | .normal => .normal
  | .exit id => .exit id
  | .ret => .ret

theorem exec_sound (ok : KOk k) {C : CallF} (cok : CallsOk k C) {A : Ann} (dok : DrawOk k C A) (hX : ∀ id, ¬ X.n (.loc id)) {n : Nat} : ∀ (c : Code) {w : World} {cx : Cx} {fs fs' : FS} {a : Act} {ex : Ex} {Q : Exit → Act → World → Prop}, codeOk c = true → FR k X w cx fs a → execN k.E C A n c fs = some (ex, fs') →
    (∀ a' w' cx', FR k X w' cx' fs' a' → Le k.base X w cx.globs w' cx'.globs → Q ex.out a' w') → c.wp k.E.P Q a w := by
  intro c
  induction c with
  | skip =>
    intro w cx fs fs' a ex Q hc fr h hQ
    simp only [execN, Option.some.injEq, Prod.mk.injEq] at h
    obtain ⟨rfl, rfl⟩ := h
    exact wp_skip (hQ a w cx fr (Le.refl _ _ _ _))
  | region id ops draw =>
    intro w cx fs fs' a ex Q hc fr h hQ
    simp only [execN] at h
    split at h
    · rename_i fs1 h1
      simp only [Option.some.injEq, Prod.mk.injEq] at h
      obtain ⟨rfl, rfl⟩ := h
      cases draw with
      | false => exact region_sound ok cok fr (by simpa [regionV] using h1) fun a' w' cx' f l => hQ a' w' cx' f l.globs
      | true => exact dok id ops X w cx fs a _ Q (by simpa [codeOk] using hc) fr (by simpa [regionV] using h1) hQ
    · cases h
  | seq x y ihx ihy =>
    intro w cx fs fs' a ex Q hc fr h hQ
    simp only [codeOk, Bool.and_eq_true] at hc
    simp only [execN] at h
    cases hx : execN k.E C A n x fs with
    | none => rw [hx] at h; cases h
    | some q =>
      obtain ⟨e1, fs1⟩ := q
      rw [hx] at h
      cases e1 with
      | normal =>
        refine wp_seq (ihx hc.1 fr hx fun a1 w1 cx1 f1 l1 => ?_)
        exact ihy hc.2 f1 h fun a2 w2 cx2 f2 l2 => hQ a2 w2 cx2 f2 (l1.trans l2)
      | exit id =>
        simp only [thenV, Option.some.injEq, Prod.mk.injEq] at h
        obtain ⟨rfl, rfl⟩ := h
        refine wp_seq (ihx hc.1 fr hx fun a1 w1 cx1 f1 l1 => ?_)
        exact hQ a1 w1 cx1 f1 l1
      | ret =>
        simp only [thenV, Option.some.injEq, Prod.mk.injEq] at h
        obtain ⟨rfl, rfl⟩ := h
        refine wp_seq (ihx hc.1 fr hx fun a1 w1 cx1 f1 l1 => ?_)
        exact hQ a1 w1 cx1 f1 l1
  | cond c x y ihx ihy =>
    intro w cx fs fs' a ex Q hk fr h hQ
    simp only [codeOk, Bool.and_eq_true] at hk
    simp only [execN] at h
    split at h
    · rename_i hc
      have hv := fr.eval ok hc
      refine wp_cond_true ?_ (ihx hk.1 fr h hQ)
      generalize a.eval c = cc at hv
      cases hv with | p _ _ hv =>
      cases hv; rfl
    · rename_i hc
      have hv := fr.eval ok hc
      refine wp_cond_false ?_ (ihy hk.2 fr h hQ)
      generalize a.eval c = cc at hv
      cases hv with | p _ _ hv =>
      cases hv; rfl
    · cases h
  | block id b ih =>
    intro w cx fs fs' a ex Q hc fr h hQ
    simp only [codeOk] at hc
    simp only [execN] at h
    cases hb : execN k.E C A n b fs with
    | none => rw [hb] at h; cases h
    | some q =>
      obtain ⟨e1, fs1⟩ := q
      rw [hb] at h
      cases e1 with
      | normal =>
        simp only [blockV, Option.some.injEq, Prod.mk.injEq] at h
        obtain ⟨rfl, rfl⟩ := h
        exact wp_block (ih hc fr hb fun a1 w1 cx1 f1 l1 => hQ a1 w1 cx1 f1 l1)
      | ret =>
        simp only [blockV, Option.some.injEq, Prod.mk.injEq] at h
        obtain ⟨rfl, rfl⟩ := h
        exact wp_block (ih hc fr hb fun a1 w1 cx1 f1 l1 => hQ a1 w1 cx1 f1 l1)
      | exit j =>
        simp only [blockV] at h
        split at h
        · rename_i hj
          have hj := Nat.eq_of_beq_eq_true hj
          simp only [Option.some.injEq, Prod.mk.injEq] at h
          obtain ⟨rfl, rfl⟩ := h
          refine wp_block (ih hc fr hb fun a1 w1 cx1 f1 l1 => ?_)
          show if j = id then _ else _
          rw [if_pos hj]
          exact hQ a1 w1 cx1 f1 l1
        · rename_i hj
          have hj := Nat.ne_of_beq_eq_false hj
          simp only [Option.some.injEq, Prod.mk.injEq] at h
          obtain ⟨rfl, rfl⟩ := h
          refine wp_block (ih hc fr hb fun a1 w1 cx1 f1 l1 => ?_)
          show if j = id then _ else _
          rw [if_neg hj]
          exact hQ a1 w1 cx1 f1 l1
  | loop b ih =>
    intro w cx fs fs' a ex Q hc fr h hQ
    simp only [codeOk] at hc
    simp only [execN] at h
    have rounds : ∀ (m : Nat) {w : World} {cx : Cx} {fs1 : FS} {a : Act}, FR k X w cx fs1 a → loopN (execN k.E C A n b) (headV fs.nid (clearA A.clear ((firstRegion b).getD 0))) m fs1 = some (ex, fs') →
        (∀ a' w' cx', FR k X w' cx' fs' a' → Le k.base X w cx.globs w' cx'.globs → Q ex.out a' w') → Code.rounds k.E.P b Q m a w := by
      intro m
      induction m with
      | zero => intro w cx fs1 a _ h; simp [loopN] at h
      | succ m ihm =>
        intro w cx fs1 a fr h hQ
        simp only [loopN] at h
        split at h
        · cases h
        · rename_i fs2 hh
          obtain ⟨cxh, fh, lh⟩ := head_sound hX fr hh
          rw [rounds_succ]
          cases hb : execN k.E C A n b fs2 with
          | none => rw [hb] at h; cases h
          | some q =>
            obtain ⟨e1, fs3⟩ := q
            rw [hb] at h
            cases e1 with
            | normal =>
              refine ih hc fh hb fun a1 w1 cx1 f1 l1 => ?_
              exact ihm f1 h fun a2 w2 cx2 f2 l2 => hQ a2 w2 cx2 f2 (lh.trans (l1.trans l2))
            | exit j =>
              simp only [thenV, Option.some.injEq, Prod.mk.injEq] at h
              obtain ⟨rfl, rfl⟩ := h
              exact ih hc fh hb fun a1 w1 cx1 f1 l1 => hQ a1 w1 cx1 f1 (lh.trans l1)
            | ret =>
              simp only [thenV, Option.some.injEq, Prod.mk.injEq] at h
              obtain ⟨rfl, rfl⟩ := h
              exact ih hc fh hb fun a1 w1 cx1 f1 l1 => hQ a1 w1 cx1 f1 (lh.trans l1)
    exact wp_loop_rounds n (rounds n fr h hQ)
  | exit id =>
    intro w cx fs fs' a ex Q hc fr h hQ
    simp only [execN, Option.some.injEq, Prod.mk.injEq] at h
    obtain ⟨rfl, rfl⟩ := h
    exact wp_exit (hQ a w cx fr (Le.refl _ _ _ _))
  | ret =>
    intro w cx fs fs' a ex Q hc fr h hQ
    simp only [execN, Option.some.injEq, Prod.mk.injEq] at h
    obtain ⟨rfl, rfl⟩ := h
    exact wp_ret (hQ a w cx fr (Le.refl _ _ _ _))
  | _ =>
    intros
    simp_all [execN]
end
end Go.AE

namespace Go.AE
open Go

section
variable {k : K} {X X' : XR} {w w' : World} {cx cx1 cx2 cx' : Cx} {fs fs' : FS} {a : Act}

theorem callFunc_enter {P : Program} {f : FuncId} {fn : Func} {c : Code} (hf : P.funcs[f]? = some fn) (hname : (fn.name == "runtime.NumGoroutine") = false) (hb : fn.body = some c) (args : Array Value) (w : World) :
    (callFunc f args).run P w = .ok (.enter f args) w := by
  have h1 : fn.name ≠ "runtime.NumGoroutine" := by simpa using hname
  simp [callFunc, hf, h1, hb]

theorem enter_FR {fn : Func} {vs : List V} {st : St} {cs : List Value} (fr : FR k X w cx (fsG st) actG) (h : AR k w cx vs cs) :
    FR k X w cx (enterV fn vs st) { tmps := (⟨cs⟩ : Array Value) ++ Array.replicate (fn.ntmps - (⟨cs⟩ : Array Value).size) undef, defers := [] } := by
  have hsz : (⟨cs⟩ : Array Value).size = vs.length := h.1
  have hget : ∀ i v, (enterV fn vs st).env.get i = some v → i < max fn.ntmps vs.length ∧ (if i < vs.length then vs[i]? = some v else v = undefV) := by
    intro i v hv
    simp only [enterV, Tr.get_lay, Tr.get_mk undefV _ _ _ (show max fn.ntmps vs.length ≤ fn.ntmps + vs.length by omega)] at hv
    by_cases hm : i < max fn.ntmps vs.length
    · refine ⟨hm, ?_⟩
      rw [if_pos hm] at hv
      by_cases hi : i < vs.length
      · rw [if_pos hi]
        rw [if_pos (by omega)] at hv
        simpa using hv
      · rw [if_neg hi]
        rw [if_neg (by omega)] at hv
        simpa using hv.symm
    · rw [if_neg hm] at hv
      split at hv <;> simp at hv
  refine ⟨fr.size, fr.pre, fr.preS, fr.slt, fun r o ho hal => ?_, fun r hh => ?_, fr.own1, fr.own2, fr.xlt, fr.alL, fr.alG, fr.obL, fr.obG, fun i v hv => ?_, fun i v c hv hc => ?_, rfl, fr.gl, fun r h => ⟨(fr.res r h).1, by cases r <;> exact (fr.res _ h).2⟩⟩
  · exact fr.obj r o (by cases r <;> exact ho) hal
  · exact fr.non r hh
  · have := (hget i v hv).1
    simp only [Array.size_append, Array.size_replicate, hsz]
    omega
  · have hv2 := (hget i v hv).2
    rw [Array.getElem?_append] at hc
    rw [hsz] at hc
    split at hv2
    · rename_i hi
      rw [if_pos hi] at hc
      exact h.2 i v c hv2 (by simpa using hc)
    · rename_i hi
      rw [if_neg hi] at hc
      have h2 : c = undef := by
        have hc' : (Array.replicate (fn.ntmps - vs.length) undef)[i - vs.length]? = some c := hc
        rw [Array.getElem?_replicate] at hc'
        split at hc'
        · simpa using hc'.symm
        · cases hc'
      subst hv2; subst h2
      exact .p _ _ (.tuple [] [] rfl (by simp))

def resVal (tmps : Array Value) : ResultVar → Sem Value
  | .tmp t => pure (tmps.getD t undef)
  | .cell p t => do loadVar t (← asAddr (tmps.getD p undef))

theorem results_eq (fn : Func) (tmps : Array Value) : results fn tmps = (do let vs ← fn.results.mapM (resVal tmps); pure (if h : vs.size = 1 then vs[0] else .tuple vs)) := by
  unfold results
  congr 1

theorem resOf_sound (ok : KOk k) (fr : FR k X w cx fs a) : ∀ {rs : List ResultVar} {vs : List V}, resOf k.E fs rs = some vs →
    ∃ cs, (rs.mapM (resVal a.tmps)).run k.E.P w = .ok cs w ∧ AR k w cx vs cs := by
  intro rs
  induction rs with
  | nil => intro vs h; simp only [resOf, Option.some.injEq] at h; subst h; exact ⟨[], rfl, rfl, by simp⟩
  | cons r rest ih =>
    intro vs h
    have getD : ∀ t v, (fs.env.get t) = some v → VR k.sg w cx v (a.tmps.getD t undef) := fun t v hv => by
      have ht : t < a.tmps.size := fr.len t v hv
      have he : a.tmps.getD t undef = a.tmps[t] := by simp [Array.getD, ht]
      rw [he]
      exact fr.env t v _ hv (by simp [ht])
    have cons : ∀ {v : V} {c : Value} {vs : List V} {cs : List Value}, VR k.sg w cx v c → AR k w cx vs cs → AR k w cx (v :: vs) (c :: cs) := fun hv har =>
      ⟨by simp [har.1], fun i u d hu hd => by
        cases i with
        | zero => simp at hu hd; subst hu; subst hd; exact hv
        | succ i => exact har.2 i u d (by simpa using hu) (by simpa using hd)⟩
    cases r with
    | tmp t =>
      simp only [resOf] at h
      split at h
      · rename_i v l hv hl
        simp only [Option.some.injEq] at h; subst h
        obtain ⟨cs, h1, h2⟩ := ih hl
        refine ⟨a.tmps.getD t undef :: cs, ?_, cons (getD t v hv) h2⟩
        simp only [List.mapM_cons, resVal, Sem.run_bind, Sem.run_pure, Result.andThen_ok, h1]
      · cases h
    | cell p t =>
      simp only [resOf] at h
      split at h
      · rename_i pv ti l hp hT hl
        simp only [Option.map_eq_some_iff] at h
        obtain ⟨v, hv, rfl⟩ := h
        obtain ⟨cs, h1, h2⟩ := ih hl
        obtain ⟨c, g1, g2⟩ := load_sound ok fr hT (getD p pv hp) hv
        refine ⟨c :: cs, ?_, cons g2 h2⟩
        have : (resVal a.tmps (.cell p t)).run k.E.P w = .ok c w := by
          have e : resVal a.tmps (.cell p t) = (do loadVar t (← asAddr (a.tmps.getD p undef))) := rfl
          rw [e]
          unfold Instr.loadAt at g1
          generalize a.tmps.getD p undef = pc at g1
          cases pc with
          | pointer ad =>
            cases ad with
            | some ad => exact g1
            | none => simp [Instr.sureAddr, stuck, Sem.run_bind, Sem.run] at g1
          | _ => simp [Instr.sureAddr, stuck, Sem.run_bind, Sem.run] at g1
        simp only [List.mapM_cons, Sem.run_bind, Sem.run_pure, Result.andThen_ok] at this ⊢
        rw [this]
        simp only [Result.andThen_ok, h1]
      · cases h

theorem resV_sound (ok : KOk k) (fr : FR k X w cx fs a) {fn : Func} {v : V} (h : resV k.E fs fn.results.toList = some v) : ∃ c, (results fn a.tmps).run k.E.P w = .ok c w ∧ VR k.sg w cx v c := by
  unfold resV at h
  have main : ∀ vs, resOf k.E fs fn.results.toList = some vs → ∃ cs, AR k w cx vs cs ∧ (results fn a.tmps).run k.E.P w = .ok (if h : (⟨cs⟩ : Array Value).size = 1 then (⟨cs⟩ : Array Value)[0] else .tuple ⟨cs⟩) w := by
    intro vs hvs
    obtain ⟨cs, h1, h2⟩ := resOf_sound ok fr hvs
    refine ⟨cs, h2, ?_⟩
    rw [results_eq, Array.mapM_eq_mapM_toList, Sem.run_bind, Sem.run_map, h1]
    rfl
  split at h
  · rename_i v' hv
    simp only [Option.some.injEq] at h; subst h
    obtain ⟨cs, h1, h2⟩ := main _ hv
    have hl : cs.length = 1 := by simpa using h1.1
    match cs, hl with
    | [c], _ => exact ⟨c, h2, h1.2 0 _ c rfl rfl⟩
  · rename_i vs hne hv
    simp only [Option.some.injEq] at h; subst h
    obtain ⟨cs, h1, h2⟩ := main _ hv
    have hl : cs.length ≠ 1 := by
      intro e
      rw [h1.1] at e
      match vs, e with
      | [x], _ => exact hne x rfl
    refine ⟨.tuple ⟨cs⟩, ?_, tup_rep h1.1 h1.2⟩
    rw [h2]
    have : ¬ (⟨cs⟩ : Array Value).size = 1 := hl
    simp only [this, dif_neg, not_false_eq_true]
  · cases h

theorem expT_sound (fr : FR k X w cx fs a) {v v' : V} {c : Value} (hv : VR k.sg w cx v c) (h : expT fs v = some v') : VR k.sg w cx v' c ∧ globV v' = true := by
  unfold expT at h
  split at h
  · rename_i vs
    simp only [Option.map_eq_some_iff] at h
    obtain ⟨cs', h1, rfl⟩ := h
    obtain ⟨m1, m2⟩ := mapO_spec h1
    have hg : cs'.all globA = true := mapO_all expA_glob h1
    cases hv with | tuple _ l hl hr =>
    refine ⟨tup_rep (by rw [hl, m1]) fun i x y hx hy => ?_, ?_⟩
    · have hi : i < vs.length := by rw [← m1]; exact (List.getElem?_eq_some_iff.1 hx).1
      have hvi : vs[i]? = some vs[i] := by simp [hi]
      exact expA_sound fr (hr i _ y hvi hy) (m2 i _ x hvi hx)
    · unfold mkTup
      split
      · rfl
      · exact hg
  · have hg := expA_glob h
    refine ⟨expA_sound fr hv h, ?_⟩
    cases v' <;> first | exact hg | (simp [globA, glob1] at hg)

theorem keepT_sound (fr : FR k X w cx fs a) {v v' : V} {c : Value} (hv : VR k.sg w cx v c) (h : keepT fs v = some v') : VR k.sg w cx v' c ∧ globV v' = true := by
  unfold keepT at h
  split at h
  · rename_i vs
    simp only [Option.map_eq_some_iff] at h
    obtain ⟨cs', h1, rfl⟩ := h
    obtain ⟨m1, m2⟩ := mapO_spec h1
    have hg : cs'.all globA = true := mapO_all keepS_glob h1
    cases hv with | tuple _ l hl hr =>
    refine ⟨tup_rep (by rw [hl, m1]) fun i x y hx hy => ?_, ?_⟩
    · have hi : i < vs.length := by rw [← m1]; exact (List.getElem?_eq_some_iff.1 hx).1
      have hvi : vs[i]? = some vs[i] := by simp [hi]
      exact keepS_sound fr (hr i _ y hvi hy) (m2 i _ x hvi hx)
    · unfold mkTup
      split
      · rfl
      · exact hg
  · have hg := keepS_glob h
    refine ⟨keepS_sound fr hv h, ?_⟩
    cases v' <;> first | exact hg | (simp [globA, glob1] at hg)

/-- Names behind a number, forgotten. -/
def Cx.cut (cx : Cx) (n : Nat) : Cx := { cx with
  blk := fun r => match r with | .loc id => cx.blk (.loc id) | .glob m => if m < n then cx.blk (.glob m) else none
  vec := fun r => match r with | .loc id => cx.vec (.loc id) | .glob m => if m < n then cx.vec (.glob m) else none }

theorem cut_sound {st : St} (fr : FR k X w cx (fsG st) actG) (n : Nat) : FR k X w (cx.cut n) (fsG (st.cut n)) actG ∧ Le k.base X w cx w (cx.cut n) := by
  have le : Le k.base X w cx w (cx.cut n) := by
    refine ⟨Nat.le_refl _, fun _ _ => rfl, fun _ _ _ _ h => h, fun _ _ h => h, fun _ _ h => .inl h, fun _ h => h, fun r b _ h => ?_, fun r q _ h => ⟨q, ?_, Nat.le_refl _, fun _ => rfl⟩, .refl w⟩
    · cases r with
      | loc id => exact h
      | glob m =>
        simp only [Cx.cut] at h
        split at h
        · exact h
        · cases h
    · cases r with
      | loc id => exact h
      | glob m =>
        simp only [Cx.cut] at h
        split at h
        · exact h
        · cases h
  have own_of : ∀ r b, (cx.cut n).own r = some b → cx.own r = some b := by
    intro r b h
    cases r with
    | loc id => exact h
    | glob m =>
      by_cases hm : m < n
      · simpa [Cx.own, Cx.cut, hm] using h
      · simp [Cx.own, Cx.cut, hm] at h
  have hobj : ∀ m o, (fsG (st.cut n)).obj (.glob m) = some o → m < n ∧ (fsG st).obj (.glob m) = some o := by
    intro m o h
    simp only [fsG, FS.obj, St.cut] at h
    split at h
    · rename_i hm; exact ⟨hm, h⟩
    · cases h
  refine ⟨⟨fr.size, fr.pre, fr.preS, fr.slt, fun r o ho hal => ?_, fun r h => ?_, fun r b h => fr.own1 r b (own_of r b h), fun r r' b h h' => fr.own2 r r' b (own_of r b h) (own_of r' b h'), fr.xlt, fr.alL, fr.alG, fun id o ho => by simp [fsG, FS.obj, lkp] at ho, fun m o ho => fr.obG m o (hobj m o ho).2, fun i v hv => (by cases hv), fun i v c hv => (by cases hv), rfl, fun m o ho => fr.gl m o (hobj m o ho).2, fun r h => ⟨(fr.res r h).1, by cases r <;> exact (fr.res _ h).2⟩⟩, le⟩
  · cases r with
    | loc id => simp [fsG, FS.obj, lkp] at ho
    | glob m =>
      obtain ⟨hm, ho'⟩ := hobj m o ho
      exact (fr.obj (.glob m) o ho' hal).mono le (by simp [Cx.cut, hm]) (by simp [Cx.cut, hm]) fun b _ => ⟨rfl, fun _ => Iff.rfl⟩
  · cases r with
    | loc id => exact fr.non (.loc id) h
    | glob m =>
      by_cases hm : m < n
      · have := fr.non (.glob m) h
        simpa [Cx.cut, hm] using this
      · simp [Cx.cut, hm]

theorem Le.fromG {st : St} (fr : FR k X w cx (fsG st) actG) (le : Le k.base X w cx.globs w' cx') : Le k.base X w cx w' cx' := by
  have no : ∀ id, ¬ cx.al (.loc id) := fun id h => Nat.not_lt_zero _ (fr.alL id h)
  refine ⟨le.size, le.kept, le.cells, le.smono, le.snew, fun r h => ?_, fun r b h h' => ?_, fun r q h h' => ?_, le.io⟩
  · cases r with
    | loc id => exact (no id h).elim
    | glob n => exact le.al (.glob n) h
  · cases r with
    | loc id => exact (no id h).elim
    | glob n => exact le.blk (.glob n) b h h'
  · cases r with
    | loc id => exact (no id h).elim
    | glob n => exact le.vec (.glob n) q h h'

/-- A function's end. -/
theorem finish_sound (ok : KOk k) {A : Ann} {fn : Func} {st st' : St} {v : V} (fr0 : FR k X w cx (fsG st) actG) {ex : Ex} (h : finishV k.E fn A st.next (some (ex, fs)) = some (v, st')) {w' : World} {cx' : Cx} {a : Act} (fr : FR k X w' cx' fs a) (le : Le k.base X w cx.globs w' cx'.globs) :
    bodyPost k.E.P fn (fun e w' => ∃ c, e = .returned c ∧ Post k X w cx v st' c w') ex.out a w' := by
  have main : ∀ v0, resV k.E fs fn.results.toList = some v0 → (if A.keep then (keepT (frzKT fs v0) v0).map fun v' => (v', (frzKT fs v0).st) else (expT (frzT fs v0) v0).map fun v' => (v', (frzT fs v0).st.cut st.next)) = some (v, st') →
      a.defers = [] ∧ ∃ c, (results fn a.tmps).run k.E.P w' = .ok c w' ∧ ∃ c', Ending.returned c = .returned c' ∧ Post k X w cx v st' c' w' := by
    intro v0 hv0 h
    obtain ⟨c, r1, r2⟩ := resV_sound ok fr hv0
    refine ⟨fr.defers, c, r1, c, rfl, ?_⟩
    have fin : ∀ {cx2 : Cx} {fs2 : FS} {v' : V}, FR k X w' cx2 fs2 a → Le k.base X w' cx' w' cx2 → VR k.sg w' cx2 v' c → globV v' = true → Post k X w cx v' fs2.st c w' := by
      intro cx2 fs2 v' f2 l2 hv hg
      exact ⟨cx2.globs, f2.globs f2.xlt (fun n b hb => (f2.own1 _ b hb).2.2) (fun r h => by cases r with | loc id => exact (Nat.not_lt_zero _ (fr0.res _ h).2).elim | glob n => exact ⟨n, rfl, h⟩), (le.trans l2.globs).fromG fr0, hv.globV hg⟩
    split at h
    · simp only [Option.map_eq_some_iff, Prod.mk.injEq] at h
      obtain ⟨v', hk, rfl, rfl⟩ := h
      obtain ⟨cx2, f2, l2⟩ := frzKT_calm v0 fr
      obtain ⟨g1, g2⟩ := keepT_sound f2 (r2.mono l2) hk
      exact fin f2 l2 g1 g2
    · simp only [Option.map_eq_some_iff, Prod.mk.injEq] at h
      obtain ⟨v', hk, rfl, rfl⟩ := h
      obtain ⟨cx2, f2, l2⟩ := frzT_calm v0 fr
      obtain ⟨g1, g2⟩ := expT_sound f2 (r2.mono l2) hk
      obtain ⟨cx3, f3, l3, v3⟩ := fin f2 l2 g1 g2
      obtain ⟨f4, l4⟩ := cut_sound f3 st.next
      exact ⟨_, f4, l3.trans l4, v3.mono l4⟩
  cases ex with
  | normal =>
    simp only [finishV] at h
    split at h
    · rename_i v0 hv0; exact main v0 hv0 h
    · cases h
  | ret =>
    simp only [finishV] at h
    split at h
    · rename_i v0 hv0; exact main v0 hv0 h
    · cases h
  | exit id => simp [finishV] at h

/-- What is asked of the program and of the summaries. -/
structure POk (k : K) : Prop where
  base : KOk k
  name : ∀ (f : Nat) (fn : Func), k.E.P.funcs[f]? = some fn → (fn.name == "runtime.NumGoroutine") = false
  summ : ∀ f s, k.E.summ f = some s → ∀ vs st v st', s vs st = some (v, st') → ∀ (X : XR) (w : World) (cx : Cx) (cs : List Value), FR k X w cx (fsG st) actG → AR k w cx vs cs →
    ((callFunc f ⟨cs⟩).run k.E.P w = .ok (.enter f ⟨cs⟩) w ∧ Calls k.E.P f ⟨cs⟩ w fun e w' => ∃ c, e = .returned c ∧ Post k X w cx v st' c w') ∨
    ∃ c w', (callFunc f ⟨cs⟩).run k.E.P w = .ok (.value c) w' ∧ Post k X w cx v st' c w'
  draw : ∀ C, CallsOk k C → ∀ f, DrawOk k C (k.E.A f)
  text : ∀ (f : Nat) (fn : Func) (b : Code), k.E.P.funcs[f]? = some fn → fn.body = some b → codeOk b = true

theorem callN_sound (ok : POk k) : ∀ n, CallsOk k (callN k.E n) := by
  intro n
  induction n with
  | zero => intro f vs st v st' h; simp [callN] at h
  | succ n ih =>
    intro f vs st v st' h X w cx cs fr har
    simp only [callN] at h
    split at h
    · rename_i s hs
      exact ok.summ f s hs vs st v st' h X w cx cs fr har
    · split at h
      · rename_i fn hf
        split at h
        · rename_i b hb
          refine .inl ⟨callFunc_enter hf (ok.name f fn hf) hb _ w, calls_of_wp hf hb ?_⟩
          cases he : execN k.E (callN k.E n) (k.E.A f) n b (enterV fn vs st) with
          | none => rw [he] at h; simp [finishV] at h
          | some r =>
            obtain ⟨ex, fs'⟩ := r
            rw [he] at h
            exact exec_sound ok.base ih (ok.draw _ ih f) (fun id h => Nat.not_lt_zero _ (fr.res _ h).2) b (ok.text f fn b hf hb) (enter_FR fr har) he fun a' w' cx' f1 l1 => finish_sound ok.base fr h f1 l1
        · cases h
      · cases h
end
end Go.AE
