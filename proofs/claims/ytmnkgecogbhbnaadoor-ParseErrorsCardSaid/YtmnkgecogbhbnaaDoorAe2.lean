/-
AE, part H: how the whole state goes on when memory grows.
AE, part I: what is made: interface values, functions, structs, literals.
AE, part J: slices' literals, look-ups, and all quiet operations together.
AE, part K: maps asked, types asserted; all quiet operations together.
AE, part L: all quiet operations together.
AE, part M: objects that come, objects that turn.
-/
import Derived.Test.YtmnkgecogbhbnaaDoorAe1
import Derived.Lib.ConvBytes
import Derived.Laws.BytesString
import Derived.Laws.IdiomStrings
import Derived.Laws.Tables
namespace Go.AE
open Go

theorem OR.mono {k : K} {X : XR} {w w' : World} {cx cx' : Cx} {r : Ref} {o : Obj} (h : OR k w cx r o) (g : Le k.base X w cx w' cx') (hb : cx'.blk r = cx.blk r) (hv : cx'.vec r = cx.vec r)
    (hh : ∀ b, cx.own r = some b → w'.heap[b]? = w.heap[b]? ∧ ∀ i, cx'.S b i ↔ cx.S b i) : OR k w' cx' r o := by
  cases o with
  | cells cs =>
    obtain ⟨h1, b, T, l, h2, h3, h4, h5, h6, h7⟩ := h
    obtain ⟨e1, e2⟩ := hh b (by simp [Cx.own, h2])
    exact ⟨by rw [hv, h1], b, T, l, by rw [hb, h2], by rw [e1, h3], h4, h5, fun i c v hc hv => (h6 i c v hc hv).mono g, fun i hi => h7 i ((e2 i).1 hi)⟩
  | vec et es stab =>
    obtain ⟨h1, q, h2, h3, h4, h5⟩ := h
    refine ⟨by rw [hb, h1], q, by rw [hv, h2], h3, h4, ?_⟩
    cases hq : q.blk with
    | none => rw [hq] at h5; exact h5
    | some b =>
      rw [hq] at h5
      simp only at h5 ⊢
      obtain ⟨e1, e2⟩ := hh b (by simp [Cx.own, h1, h2, hq])
      obtain ⟨e, te, l, g1, g2, g3, g4, g5, g6, g7, g8, g9, g10, g11, g12, g13⟩ := h5
      exact ⟨e, te, l, g1, g2, g3, g4, by rw [e1, g5], g6, g7, g8, g9, g10, fun i x j c hx hc => by
        obtain ⟨v, hv, hr⟩ := g11 i x j c hx hc
        exact ⟨v, hv, hr.mono g.smono g.cells⟩, fun m hm => (e2 m).2 (g12 m hm), fun m hm hS => g13 m hm ((e2 m).1 hS)⟩
  | map es =>
    obtain ⟨h1, b, ms, ck, h2, h3, h4, h5, h6, h7⟩ := h
    obtain ⟨e1, e2⟩ := hh b (by simp [Cx.own, h2])
    exact ⟨by rw [hv, h1], b, ms, ck, by rw [hb, h2], by rw [e1, h3], h4, fun i x v m hx hm => ⟨(h5 i x v m hx hm).1.mono g.smono g.cells, (h5 i x v m hx hm).2.mono g⟩, h6, h7⟩

/-- Memory that is new and stays. -/
def Cx.addS (cx : Cx) (lo hi : Nat) : Cx := { cx with S := fun b i => cx.S b i ∨ (lo ≤ b ∧ b < hi) }

section
variable {k : K} {X : XR} {w w' : World} {cx : Cx} {fs : FS} {a : Act}

theorem FR.le_ext (fr : FR k X w cx fs a) (hs : w.heap.size ≤ w'.heap.size) (hk : ∀ b, b < w.heap.size → w'.heap[b]? = w.heap[b]?) (io : IO w w') : Le k.base X w cx w' (cx.addS w.heap.size w'.heap.size) where
  size := hs
  kept b hb := hk b (hb.elim (fun hb => Nat.lt_of_lt_of_le hb fr.size) (fr.xlt b))
  cells b i v hS hv := by rw [cellAt_of_heap (hk b (fr.slt b i hS)), hv]
  smono b i hS := .inl hS
  snew b i hS := by
    rcases hS with hS | hS
    · exact .inl hS
    · exact .inr fun hx => by have := fr.xlt b hx; omega
  al r h := h
  blk r b _ h := h
  vec r q _ h := ⟨q, h, Nat.le_refl _, fun _ => rfl⟩
  io := io

theorem FR.ext (fr : FR k X w cx fs a) (hs : w.heap.size ≤ w'.heap.size) (hk : ∀ b, b < w.heap.size → w'.heap[b]? = w.heap[b]?) (io : IO w w') : FR k X w' (cx.addS w.heap.size w'.heap.size) fs a where
  size := Nat.le_trans fr.size hs
  pre b hb := (hk b (Nat.lt_of_lt_of_le hb fr.size)).trans (fr.pre b hb)
  preS b hb i := .inl (fr.preS b hb i)
  slt b i hS := by
    rcases hS with hS | hS
    · exact Nat.lt_of_lt_of_le (fr.slt b i hS) hs
    · exact hS.2
  obj r o ho hal := (fr.obj r o ho hal).mono (fr.le_ext hs hk io) rfl rfl fun b hb => by
    have hlt := (fr.own1 r b hb).2.1
    exact ⟨hk b hlt, fun i => ⟨fun h => h.resolve_right (by omega), .inl⟩⟩
  non := fr.non
  own1 r b hb := ⟨(fr.own1 r b hb).1, Nat.lt_of_lt_of_le (fr.own1 r b hb).2.1 hs, (fr.own1 r b hb).2.2⟩
  own2 := fr.own2
  xlt b hb := Nat.lt_of_lt_of_le (fr.xlt b hb) hs
  alL := fr.alL
  alG := fr.alG
  obL := fr.obL
  obG := fr.obG
  len := fr.len
  env i v c hv hc := (fr.env i v c hv hc).mono (fr.le_ext hs hk io)
  defers := fr.defers
  gl := fr.gl
  res := fr.res

/-- Nothing of memory has turned. -/
theorem FR.same (fr : FR k X w cx fs a) (h : w'.heap = w.heap) (io : IO w w') : FR k X w' cx fs a ∧ Le k.base X w cx w' cx := by
  have hc : ∀ b i, cellAt w' b i = cellAt w b i := fun b i => cellAt_of_heap (by rw [h])
  have le : Le k.base X w cx w' cx := ⟨by rw [h]; exact Nat.le_refl _, fun b _ => by rw [h], fun b i v _ hv => by rw [hc, hv], fun _ _ h => h, fun _ _ h => .inl h, fun _ h => h, fun _ _ _ h => h, fun _ q _ h => ⟨q, h, Nat.le_refl _, fun _ => rfl⟩, io⟩
  refine ⟨⟨by rw [h]; exact fr.size, fun b hb => by rw [h]; exact fr.pre b hb, fr.preS, fun b i hS => by rw [h]; exact fr.slt b i hS,
    fun r o ho hal => (fr.obj r o ho hal).mono le rfl rfl fun b _ => ⟨by rw [h], fun _ => Iff.rfl⟩, fr.non,
    fun r b hb => by rw [h]; exact fr.own1 r b hb, fr.own2, fun b hb => by rw [h]; exact fr.xlt b hb, fr.alL, fr.alG, fr.obL, fr.obG, fr.len,
    fun i v c hv hcc => (fr.env i v c hv hcc).mono le, fr.defers, fr.gl, fr.res⟩, le⟩
end


/-- A quiet operation's run: memory goes on as it was, and more of it perhaps. -/
def Quiet (k : K) (w : World) (cx : Cx) (s : Sem Value) (v : V) : Prop :=
  ∃ c w', s.run k.E.P w = .ok c w' ∧ w.heap.size ≤ w'.heap.size ∧ (∀ b, b < w.heap.size → w'.heap[b]? = w.heap[b]?) ∧ IO w w' ∧ VR k.sg w' (cx.addS w.heap.size w'.heap.size) v c

theorem Quiet.of {k : K} {w : World} {cx : Cx} {s : Sem Value} {v : V} (h : ∃ c, s.run k.E.P w = .ok c w ∧ VR k.sg w cx v c) : Quiet k w cx s v := by
  obtain ⟨c, h1, h2⟩ := h
  exact ⟨c, w, h1, Nat.le_refl _, fun _ _ => rfl, .refl w, h2.lift (fun _ _ h => .inl h) fun _ h => ⟨h, rfl, rfl⟩⟩

theorem bytesOf_spec {es : List PV} {bs : List UInt8} (h : bytesOf es = some bs) : bs.length = es.length ∧ ∃ ns : List Int, es = ns.map (fun n => PV.int .u8 n) ∧ bs = ns.map fun n => UInt8.ofNat n.toNat := by
  induction es generalizing bs with
  | nil => simp [bytesOf] at h; subst h; exact ⟨rfl, [], rfl, rfl⟩
  | cons e r ih =>
    unfold bytesOf at h
    split at h
    · rename_i he
      cases he
    · rename_i n r' he
      cases he
      simp only [Option.map_eq_some_iff] at h
      obtain ⟨bs', hb, rfl⟩ := h
      obtain ⟨h1, ns, h2, h3⟩ := ih hb
      exact ⟨by simp [h1], n :: ns, by simp [h2], by simp [h3]⟩
    · cases h

theorem foldl_push (ns : List Int) (s : ByteArray) : (ns.foldl (fun r n => r.push (UInt8.ofNat n.toNat)) s).data.toList = s.data.toList ++ ns.map fun n => UInt8.ofNat n.toNat := by
  induction ns generalizing s with
  | nil => simp
  | cons n r ih => simp [ih]

section
variable {k : K} {X : XR} {w : World} {cx : Cx} {fs : FS} {a : Act}

theorem conv_sound (ok : KOk k) (fr : FR k X w cx fs a) {s d : Nat} {x v : V} {c : Value} (hx : VR k.sg w cx x c) (h : convV k.E fs s d x = some v) : Quiet k w cx (convert s d c) v := by
  unfold convV at h
  split at h
  · rename_i ts td hs hd
    have hts := ok.ty s ts hs
    have htd := ok.ty d td hd
    split at h
    · rename_i k1 k2 k3 n hu1 hu2
      simp only [Option.some.injEq] at h; subst h
      cases hx with | p _ _ hx =>
      cases hx
      refine Quiet.of ⟨.int k2 (k2.wrap n), ?_, .p _ _ (.int _ _)⟩
      simp [convert, run_und (und_int hts hu1), run_und (und_int htd hu2), Conv.intToInt]
    · rename_i t hu1 hu2
      simp only [Option.some.injEq] at h; subst h
      cases hx with | p _ _ hx =>
      cases hx with | str s1 _ e1 =>
      refine Quiet.of ⟨.string s1, ?_, .p _ _ (.str _ _ e1)⟩
      simp [convert, run_und (und_str hts hu1), run_und (und_str htd hu2)]
    · rename_i e hu1 hu2
      split at h
      · rename_i te kd es hte hexp
        split at h
        · rename_i hue
          simp only [Option.map_eq_some_iff] at h
          obtain ⟨bs, hb, rfl⟩ := h
          obtain ⟨h1, ns, rfl, rfl⟩ := bytesOf_spec hb
          have hx' := expS_sound fr hx hexp
          have hue' := und_int (ok.ty e te hte) hue
          cases hx' with | p _ _ hp =>
          generalize hns : ns.map (fun n => PV.int .u8 n) = es at hp
          have hlen : es.length = ns.length := by rw [← hns]; simp
          cases hp with
          | nilS _ hk =>
            have : ns = [] := by simpa using hns
            subst this
            refine Quiet.of ⟨.string .empty, ?_, .p _ _ (.str _ _ rfl)⟩
            rw [run_convert_bytes_string w s d e none 0 0 (und_slice hts hu1) hue' (und_str htd hu2)]
            rfl
          | list _ _ b o cap sz cv hk hl hcap hsz hc hr =>
            subst hns
            have hes : ∀ (i : Nat) (n : Int), ns[i]? = some n → (ns.map (fun n => PV.int .u8 n))[i]? = some (PV.int .u8 n) := fun i n h => by simp [h]
            have hsz1 : ns ≠ [] → sz = 1 := by
              intro hne
              cases ns with
              | nil => exact absurd rfl hne
              | cons n r => have := hsz 0 _ (hes 0 n rfl); simpa [PV.cells] using this.symm
            have hload : (loadCells ⟨b, o, none⟩ ns.length).run k.E.P w = .ok (ns.map (Value.int .u8)).toArray w := by
              have := run_loadCells_list (P := k.E.P) w ⟨b, o, none⟩ (ns.map (Value.int .u8)) (fun j v hv => by
                simp only [List.getElem?_map, Option.map_eq_some_iff] at hv
                obtain ⟨n, hn, rfl⟩ := hv
                have hne : ns ≠ [] := by intro e; subst e; simp at hn
                have h1 := hc j _ 0 _ (hes j n hn) rfl
                have h2 := hr j _ 0 _ (hes j n hn) rfl
                rw [hsz1 hne, Nat.mul_one, Nat.add_zero] at h1
                rw [Addr_add]
                generalize hcv : cv j 0 = x at h1 h2
                cases h2
                exact h1.2.1)
              simpa using this
            refine Quiet.of ⟨_, ?_, .p _ _ (.str _ _ (foldl_push ns .empty))⟩
            rw [run_convert_bytes_string w s d e (some ⟨b, o, none⟩) _ _ (und_slice hts hu1) hue' (und_str htd hu2)]
            simp only [List.length_map]
            exact run_bytesToString w _ _ _ ns hload
        · cases h
      · cases h
    · rename_i e t hu1 hu2
      split at h
      · rename_i te hte
        split at h
        · rename_i hue
          simp only [Option.some.injEq] at h; subst h
          have hue' := und_int (ok.ty e te hte) hue
          cases hx with | p _ _ hx =>
          cases hx with | str s1 _ e1 =>
          subst e1
          have hsz : (Lib.bytesWorld w e s1).heap.size = w.heap.size + 1 := Lib.bytesWorld_size w e s1
          have hk : ∀ b, b < w.heap.size → (Lib.bytesWorld w e s1).heap[b]? = w.heap[b]? := fun b hb => Lib.bytesWorld_at_old w e s1 b hb
          refine ⟨_, _, Lib.run_convert_string_bytes w s d e s1 (und_str hts hu1) (und_slice htd hu2) hue', by omega, hk, ⟨rfl, rfl⟩, ?_⟩
          have hlen : (s1.data.toList.map fun b => PV.int .u8 b.toNat).length = s1.size := by simp
          have := Rep.list (sg := k.sg) (w := Lib.bytesWorld w e s1) (S := (cx.addS w.heap.size (Lib.bytesWorld w e s1).heap.size).S) .unk (s1.data.toList.map fun b => PV.int .u8 b.toNat) w.heap.size 0
            (grownCap w s1.size 0 e) 1 (fun i _ => .int .u8 (s1.data.toList.getD i 0).toNat) (by simp) (by simp) (by rw [hlen]; exact grownCap_ge w s1.size 0 e)
            (fun i x hx => by
              simp only [List.getElem?_map, Option.map_eq_some_iff] at hx
              obtain ⟨b, _, rfl⟩ := hx; rfl)
            (fun i x j c hx hcc => by
              simp only [List.getElem?_map, Option.map_eq_some_iff] at hx
              obtain ⟨b, hb, rfl⟩ := hx
              have hj : j = 0 := by cases j with | zero => rfl | succ j => simp [PV.cells] at hcc
              subst hj
              have hi : i < s1.size := by have := (List.getElem?_eq_some_iff.1 hb).1; simpa using this
              refine ⟨.inr ⟨Nat.le_refl _, by omega⟩, ?_, rfl⟩
              rw [Nat.zero_add, Nat.mul_one, Nat.add_zero]
              exact Lib.bytesWorld_cell w e s1 i hi)
            (fun i x j c hx hcc => by
              simp only [List.getElem?_map, Option.map_eq_some_iff] at hx
              obtain ⟨b, hb, rfl⟩ := hx
              have hj : j = 0 := by cases j with | zero => rfl | succ j => simp [PV.cells] at hcc
              subst hj
              simp only [PV.cells, List.getElem?_cons_zero, Option.some.injEq] at hcc
              subst hcc
              have : s1.data.toList.getD i 0 = b := by simp [List.getD, hb]
              rw [this]
              exact .int _ _)
          rw [hlen] at this
          exact .p _ _ this
        · cases h
      · cases h
    · cases h
  · cases h
end

end Go.AE

namespace Go.AE
open Go

theorem putAt_get {α : Type} (cs : List α) (off : Nat) (vs : List α) (h : off + vs.length ≤ cs.length) (i : Nat) :
    (putAt cs off vs)[i]? = if i < off then cs[i]? else if i < off + vs.length then vs[i - off]? else cs[i]? := by
  unfold putAt
  have h1 : (cs.take off).length = off := by simp; omega
  by_cases hi : i < off
  · rw [if_pos hi, List.append_assoc, List.getElem?_append_left (by omega), List.getElem?_take, if_pos hi]
  · rw [if_neg hi]
    by_cases hj : i < off + vs.length
    · rw [if_pos hj, List.append_assoc, List.getElem?_append_right (by omega), h1, List.getElem?_append_left (by omega)]
    · rw [if_neg hj, List.getElem?_append_right (by simp; omega), List.getElem?_drop]
      congr 1
      simp; omega
theorem putAt_length {α : Type} (cs : List α) (off : Nat) (vs : List α) (h : off + vs.length ≤ cs.length) : (putAt cs off vs).length = cs.length := by
  simp [putAt]; omega

theorem foldl_set (off : Nat) : ∀ (vs : List Value) (n : Nat) (cs : Array Value), off + n + vs.length ≤ cs.size →
    ((vs.zipIdx n).foldl (fun (cs : Array Value) (q : Value × Nat) => cs.setIfInBounds (off + q.2) q.1) cs).toList = putAt cs.toList (off + n) vs := by
  intro vs
  induction vs with
  | nil => intro n cs h; simp [putAt]
  | cons v r ih =>
    intro n cs h
    simp only [List.zipIdx_cons, List.foldl_cons]
    simp only [List.length_cons] at h
    rw [ih (n + 1) _ (by simp; omega)]
    apply List.ext_getElem?
    intro i
    have hl : (cs.setIfInBounds (off + n) v).toList.length = cs.toList.length := by simp
    rw [putAt_get _ _ _ (by rw [hl]; simp; omega), putAt_get _ _ _ (by simp; omega)]
    simp only [Array.toList_setIfInBounds, List.getElem?_set, List.length_cons]
    by_cases h1 : i < off + n
    · rw [if_pos (by omega), if_neg (by omega), if_pos h1]
    · by_cases h2 : i = off + n
      · subst h2
        rw [if_pos (by omega), if_pos rfl, if_pos (by simp; omega), if_neg (by omega), if_pos (by omega)]
        simp
      · by_cases h3 : i < off + n + (r.length + 1)
        · rw [if_neg (by omega), if_pos (by omega), if_neg h1, if_pos h3]
          have : i - (off + n) = (i - (off + (n + 1))) + 1 := by omega
          rw [this, List.getElem?_cons_succ]
        · rw [if_neg (by omega), if_neg (by omega), if_neg (by omega), if_neg h1, if_neg h3]

section
variable {k : K} {X : XR} {w : World} {cx : Cx} {fs : FS} {a : Act}

theorem CR.put {cs vs : List V} {l m : List Value} (h : CR k w cx cs l) (g : CR k w cx vs m) (off : Nat) (hle : off + vs.length ≤ cs.length) : CR k w cx (putAt cs off vs) (putAt l off m) := by
  have hm : m.length = vs.length := g.1
  have hl : l.length = cs.length := h.1
  refine ⟨by rw [putAt_length _ _ _ (by omega), putAt_length _ _ _ hle, hl], ?_, ?_⟩
  · intro i v hv
    rw [putAt_get _ _ _ (by omega)] at hv
    split at hv
    · exact h.2.1 i v hv
    · split at hv
      · exact g.2.1 _ v hv
      · exact h.2.1 i v hv
  · intro i c v hc hv
    rw [putAt_get _ _ _ hle] at hc
    rw [putAt_get _ _ _ (by omega)] at hv
    rw [hm] at hv
    split at hc
    · rename_i h1; rw [if_pos h1] at hv; exact h.2.2 i c v hc hv
    · rename_i h1
      rw [if_neg h1] at hv
      split at hc
      · rename_i h2; rw [if_pos h2] at hv; exact g.2.2 _ c v hc hv
      · rename_i h2; rw [if_neg h2] at hv; exact h.2.2 i c v hc hv

/-- Zero cells. -/
theorem zero_CR {P : Program} {t : Nat} {ti : TI} (ht : tiOf P t = some ti) : ∃ z, (∀ w, (zeroValue t).run P w = .ok z w) ∧ isAggV z = ti.ag ∧ z.cells.toList.length = ti.size ∧
    ∀ (k : K) (w : World) (cx : Cx), CR k w cx (ti.zero.map .p) z.cells.toList := by
  obtain ⟨i, d, z, hi, hd, hz, hs, h1, h2, h3, h4, h5, h6, h7⟩ := tiOf_spec ht
  obtain ⟨s1, s2⟩ := scals_spec hs
  refine ⟨z, fun w => by simp [zeroValue, run_typeInfo hi, hz], by rw [h5, h3], by rw [s1, h6, h1], fun k w cx => ⟨by simp [s1], ?_, ?_⟩⟩
  · intro j v hv
    have hj : j < ti.zero.length := by rw [← s1]; exact (List.getElem?_eq_some_iff.1 hv).1
    exact (scal_rep (sg := k.sg) (w := w) (S := cx.S) (s2 j v _ hv (List.getElem?_eq_getElem hj))).2.1
  · intro j c v hc hv
    simp only [List.getElem?_map, Option.map_eq_some_iff] at hc
    obtain ⟨x, hx, rfl⟩ := hc
    exact .p _ _ (scal_rep (s2 j v x hv hx)).1

theorem zeroV_sound {t : Nat} {ti : TI} (ht : tiOf k.E.P t = some ti) {v : V} (h : zeroV ti = some v) : ∃ z, (∀ w, (zeroValue t).run k.E.P w = .ok z w) ∧ (∀ w cx, VR k.sg w cx v z) := by
  obtain ⟨z, h1, h2, h3, h4⟩ := zero_CR ht
  refine ⟨z, h1, fun w cx => ?_⟩
  have hcr := h4 k w cx
  unfold zeroV at h
  cases hag : ti.ag with
  | true =>
    rw [hag] at h h2
    simp only [if_true, Option.some.injEq] at h
    subst h
    cases z <;> simp [isAggV] at h2
    rename_i cs
    have := hcr.mkAgg
    have un : ∀ q : List PV, unp (q.map .p) = some q := by
      intro q; induction q with
      | nil => rfl
      | cons x r ih => simp [unp, V.pv, ih]
    simp only [Go.AE.mkAgg, un] at this
    exact this
  | false =>
    rw [hag] at h h2
    simp only [Bool.false_eq_true, if_false] at h
    split at h
    · rename_i x hx
      simp only [Option.some.injEq] at h; subst h
      rw [hx] at hcr
      have hz1 : z.cells = #[z] := by cases z <;> first | rfl | (simp [isAggV] at h2)
      rw [hz1] at hcr
      exact hcr.2.2 0 (.p x) z rfl rfl
    · cases h

theorem partsOf_spec (ok : KOk k) (fr : FR k X w cx fs a) {place : Nat → Option (Nat × Nat)} {parts : List (Nat × Operand)} {l : List (Nat × Nat × V)} (h : partsOf place (evalO k.E fs.env) parts = some l) :
    ∀ (cells : List V) (cv : Array Value), CR k w cx cells cv.toList → ∀ r, fillV cells l = some r →
      ∃ cv', Instr.fill place cv (parts.map fun q => (q.1, a.eval q.2)) = some cv' ∧ CR k w cx r cv'.toList := by
  induction parts generalizing l with
  | nil =>
    simp only [partsOf, Option.some.injEq] at h
    subst h
    intro cells cv hcr r hr
    simp only [fillV, Option.some.injEq] at hr
    subst hr
    exact ⟨cv, rfl, hcr⟩
  | cons q rest ih =>
    obtain ⟨i, x⟩ := q
    simp only [partsOf] at h
    split at h
    · rename_i o s v l' hp hv hl'
      simp only [Option.some.injEq] at h
      subst h
      intro cells cv hcr r hr
      simp only [fillV] at hr
      split at hr
      · rename_i hc
        obtain ⟨h1, h2, h3⟩ := hc
        have hvc := (fr.eval ok hv).cells h3
        have hsz : (a.eval x).cells.size = s := by have := hvc.1; simp at this; omega
        have hcs : cv.size = cells.length := by have := hcr.1; simpa using this
        have hput := hcr.put hvc o (by omega)
        have hfold := foldl_set o (a.eval x).cells.toList 0 cv (by simp; omega)
        simp only [Nat.add_zero] at hfold
        rw [← hfold] at hput
        obtain ⟨cv', g1, g2⟩ := ih hl' _ _ hput r hr
        refine ⟨cv', ?_, g2⟩
        simp only [List.map_cons, Instr.fill, hp]
        rw [if_neg (by simp; exact ⟨hsz, by omega⟩)]
        rw [← g1]
        congr 1
        apply Array.ext'
        rw [← Array.foldl_toList]
        simp
      · cases hr
    · cases h

theorem build_sound (ok : KOk k) (fr : FR k X w cx fs a) {t : Nat} {parts : Array (Nat × Operand)} {v : V} (h : buildV k.E (evalO k.E fs.env) t parts.toList = some v) :
    ∃ c, (Instr.build t (parts.map fun q => (q.1, a.eval q.2))).run k.E.P w = .ok c w ∧ VR k.sg w cx v c := by
  unfold buildV at h
  split at h
  · cases h
  rename_i ti hti
  have ht := ok.ty t ti hti
  obtain ⟨z, hz1, hz2, hz3, hz4⟩ := zero_CR ht
  have hcr := hz4 k w cx
  split at h
  · rename_i fl hu
    split at h
    · cases h
    rename_i hall
    obtain ⟨l, hl, rfl⟩ := und_struct ht hu
    split at h
    · rename_i lp hlp
      simp only [Option.map_eq_some_iff] at h
      obtain ⟨r, hr, rfl⟩ := h
      -- the places
      have hpl : ∃ places, l.toList.mapM (fun f => (k.E.P.info? f.type).map fun i => (f.offset, i.size)) = some places ∧
          ∀ i : Nat, places[i]? = (match (l.toList.map fun (f : Field) => (f.offset, f.type))[i]? with | some (o, u) => (k.E.T u).map fun (tu : TI) => (o, tu.size) | none => none) := by
        have hall' : ∀ f ∈ l.toList, (k.E.T f.type).isSome = true := by
          intro f hf
          have : (l.toList.map fun f => (f.offset, f.type)).all (fun q => (k.E.T q.2).isSome) = true := by
            cases hb : (l.toList.map fun f => (f.offset, f.type)).all (fun q => (k.E.T q.2).isSome) with
            | true => rfl
            | false => rw [hb] at hall; exact absurd rfl hall
          rw [List.all_eq_true] at this
          exact this (f.offset, f.type) (List.mem_map.2 ⟨f, hf, rfl⟩)
        revert hall'
        generalize l.toList = fl
        intro hall'
        induction fl with
        | nil => exact ⟨[], rfl, fun i => by simp⟩
        | cons f r ih =>
          obtain ⟨ps, hps, hg⟩ := ih fun f hf => hall' f (List.mem_cons_of_mem _ hf)
          have h1 := hall' f (List.mem_cons_self)
          cases hT : k.E.T f.type with
          | none => rw [hT] at h1; simp at h1
          | some tu =>
            obtain ⟨i, _, _, hi, _, _, _, hsz, _⟩ := tiOf_spec (ok.ty _ _ hT)
            refine ⟨(f.offset, i.size) :: ps, by simp [List.mapM_cons, hi, hps], fun j => ?_⟩
            cases j with
            | zero => simp [hT, hsz]
            | succ j => simpa using hg j
      obtain ⟨places, hp1, hp2⟩ := hpl
      obtain ⟨cv, g1, g2⟩ := partsOf_spec (place := fun i => places[i]?) ok fr (by rw [← hlp]; congr 1; funext i; exact hp2 i) _ _ hcr r hr
      refine ⟨.agg cv, ?_, by simpa using g2.mkAgg⟩
      simp only [Instr.build, Sem.run_bind, hz1, Result.andThen_ok, run_und hl]
      have := run_places (P := k.E.P) w l.toList places hp1
      simp only [Array.mapM_eq_mapM_toList]
      simp [this, g1]
    · cases h
  · rename_i n e hu
    have hd := und_arr ht hu
    split at h
    · rename_i te hte
      split at h
      · rename_i lp hlp
        simp only [Option.map_eq_some_iff] at h
        obtain ⟨r, hr, rfl⟩ := h
        obtain ⟨cv, g1, g2⟩ := partsOf_spec (place := fun i => some (i * te.size, te.size)) ok fr hlp _ _ hcr r hr
        refine ⟨.agg cv, ?_, by simpa using g2.mkAgg⟩
        simp [Instr.build, hz1, run_und hd, run_sizeOf (ok.ty e te hte), g1]
      · cases h
    · cases h
  · cases h
end

end Go.AE

namespace Go.AE
open Go

/-- Elements side by side with cells: each of 'sz' cells. -/
def ER (k : K) (w : World) (cx : Cx) (sz : Nat) (es : List PV) (l : List Value) : Prop :=
  l.length = es.length * sz ∧ (∀ (i : Nat) (v : Value), l[i]? = some v → v.oneCell = true) ∧ (∀ (i : Nat) (x : PV), es[i]? = some x → x.cells.length = sz) ∧
  ∀ (i : Nat) (x : PV) (j : Nat) (c : PV) (v : Value), es[i]? = some x → x.cells[j]? = some c → l[i * sz + j]? = some v → Rep k.sg w cx.S c v

section
variable {k : K} {X : XR} {w : World} {cx : Cx} {fs : FS} {a : Act}

theorem ER.set {sz : Nat} {es : List PV} {l : List Value} (h : ER k w cx sz es l) {i : Nat} (hi : i < es.length) {x : PV} {m : List Value} (hx : x.cells.length = sz) (hm : m.length = sz)
    (ho : ∀ (j : Nat) (v : Value), m[j]? = some v → v.oneCell = true) (hr : ∀ (j : Nat) (c : PV) (v : Value), x.cells[j]? = some c → m[j]? = some v → Rep k.sg w cx.S c v) :
    ER k w cx sz (es.set i x) (putAt l (i * sz) m) := by
  have hle : i * sz + m.length ≤ l.length := by
    rw [h.1, hm]
    have : (i + 1) * sz ≤ es.length * sz := Nat.mul_le_mul_right _ hi
    rw [Nat.add_mul, Nat.one_mul] at this
    exact this
  refine ⟨by rw [putAt_length _ _ _ hle, h.1]; simp, ?_, ?_, ?_⟩
  · intro j v hv
    rw [putAt_get _ _ _ hle] at hv
    split at hv
    · exact h.2.1 j v hv
    · split at hv
      · exact ho _ v hv
      · exact h.2.1 j v hv
  · intro j y hy
    rw [List.getElem?_set] at hy
    split at hy
    · simp only [Option.some.injEq] at hy; subst hy; exact hx
    · exact h.2.2.1 j y hy
  · intro p y j c v hy hc hv
    rw [List.getElem?_set] at hy
    have hj : j < sz := by
      split at hy
      · simp only [Option.some.injEq] at hy; subst hy; rw [← hx]; exact (List.getElem?_eq_some_iff.1 hc).1
      · rw [← h.2.2.1 p y hy]; exact (List.getElem?_eq_some_iff.1 hc).1
    rw [putAt_get _ _ _ hle, hm] at hv
    split at hy
    · rename_i hip
      subst hip
      simp only [Option.some.injEq] at hy
      subst hy
      rw [if_neg (by omega), if_pos (by omega)] at hv
      have e : i * sz + j - i * sz = j := by omega
      rw [e] at hv
      exact hr j c v hc hv
    · rename_i hip
      have hne : ¬ (i * sz ≤ p * sz + j ∧ p * sz + j < i * sz + sz) := by
        intro hh
        rcases Nat.lt_or_gt_of_ne hip with hlt | hlt
        · have : (i + 1) * sz ≤ p * sz := Nat.mul_le_mul_right _ hlt
          rw [Nat.add_mul, Nat.one_mul] at this
          omega
        · have : (p + 1) * sz ≤ i * sz := Nat.mul_le_mul_right _ hlt
          rw [Nat.add_mul, Nat.one_mul] at this
          omega
      by_cases h1 : p * sz + j < i * sz
      · rw [if_pos h1] at hv; exact h.2.2.2 p y j c v hy hc hv
      · rw [if_neg h1, if_neg (by omega)] at hv; exact h.2.2.2 p y j c v hy hc hv

theorem litL_spec (ok : KOk k) (fr : FR k X w cx fs a) {sz : Nat} {parts : List (Nat × Operand)} : ∀ {es r : List PV}, litL (fun x => (evalO k.E fs.env x).bind (pureA fs)) sz es parts = some r →
    ∀ cv : Array Value, ER k w cx sz es cv.toList → ∃ cv', Instr.fill (fun i => some (i * sz, sz)) cv (parts.map fun q => (q.1, a.eval q.2)) = some cv' ∧ ER k w cx sz r cv'.toList ∧ r.length = es.length := by
  induction parts with
  | nil =>
    intro es r h cv hcr
    simp only [litL, Option.some.injEq] at h
    subst h
    exact ⟨cv, rfl, hcr, rfl⟩
  | cons q rest ih =>
    intro es r h cv hcr
    obtain ⟨i, x⟩ := q
    simp only [litL] at h
    split at h
    · rename_i v hv
      split at h
      · rename_i hc
        obtain ⟨h1, h2, h3⟩ := hc
        simp only [Option.bind_eq_some_iff] at hv
        obtain ⟨v0, hv0, hv1⟩ := hv
        have hrep := pureA_sound fr (fr.eval ok hv0) hv1
        have hcells := (VR.p (cx := cx) v (a.eval x) hrep).cells h3
        have hlen : (a.eval x).cells.toList.length = sz := by rw [hcells.1]; simpa [V.cells] using h1
        have hset := hcr.set h2 h1 hlen hcells.2.1 (fun j c u hc hu => by
          have := hcells.2.2 j (.p c) u (by simp [V.cells, hc]) hu
          cases this with | p _ _ h => exact h)
        have hle : i * sz + (a.eval x).cells.toList.length ≤ cv.toList.length := by
          rw [hcr.1, hlen]
          have : (i + 1) * sz ≤ es.length * sz := Nat.mul_le_mul_right _ h2
          rw [Nat.add_mul, Nat.one_mul] at this
          exact this
        have hfold := foldl_set (i * sz) (a.eval x).cells.toList 0 cv (by simpa using hle)
        simp only [Nat.add_zero] at hfold
        rw [← hfold] at hset
        obtain ⟨cv', g1, g2, g3⟩ := ih h _ hset
        refine ⟨cv', ?_, g2, by simpa using g3⟩
        simp only [List.map_cons, Instr.fill]
        have hsz : (a.eval x).cells.size = sz := by simpa using hlen
        rw [if_neg (by simp; exact ⟨hsz, by simpa using hle⟩)]
        rw [← g1]
        congr 1
        apply Array.ext'
        rw [← Array.foldl_toList]
        simp
      · cases h
    · cases h

theorem zero_ER {sz len : Nat} {z : PV} {zl : List Value} (hz : z.cells.length = sz) (hl : zl.length = sz) (h0 : 0 < sz) (ho : ∀ (j : Nat) (v : Value), zl[j]? = some v → v.oneCell = true)
    (hr : ∀ (j : Nat) (c : PV) (v : Value), z.cells[j]? = some c → zl[j]? = some v → Rep k.sg w cx.S c v) :
    ER k w cx sz (List.replicate len z) ((List.range (len * sz)).map fun i => zl.getD (i % sz) undef) := by
  have hget : ∀ (i : Nat) (v : Value), ((List.range (len * sz)).map fun i => zl.getD (i % sz) undef)[i]? = some v → zl[i % sz]? = some v := by
    intro i v hv
    simp only [List.getElem?_map, Option.map_eq_some_iff] at hv
    obtain ⟨j, hj, rfl⟩ := hv
    have hi : i < len * sz := by have := (List.getElem?_eq_some_iff.1 hj).1; simpa using this
    have : j = i := by rw [List.getElem?_range hi] at hj; simpa using hj.symm
    subst this
    have hm : j % sz < zl.length := by rw [hl]; exact Nat.mod_lt _ h0
    simp [List.getD, List.getElem?_eq_getElem hm]
  refine ⟨by simp, fun i v hv => ho _ v (hget i v hv), ?_, ?_⟩
  · intro i x hx
    have := List.mem_of_getElem? hx
    rw [List.mem_replicate] at this
    rw [this.2, hz]
  · intro i x j c v hx hc hv
    have := List.mem_of_getElem? hx
    rw [List.mem_replicate] at this
    rw [this.2] at hc
    have hj : j < sz := by rw [← hz]; exact (List.getElem?_eq_some_iff.1 hc).1
    have := hget _ v hv
    rw [Nat.mul_comm, Nat.mul_add_mod, Nat.mod_eq_of_lt hj] at this
    exact hr j c v hc this

/-- A new block that stays, of a list's elements. -/
theorem list_new {k : K} {w' : World} {cx' : Cx} {sz : Nat} {es : List PV} {l : List Value} {b T : Nat} {cap : Nat} {kd : LK} (h : ER k w' cx' sz es l) (hb : w'.heap[b]? = some (.cells ⟨l⟩ T (0, 0)))
    (hS : ∀ i, cx'.S b i) (hk : kd ≠ .nil) (hl : kd = .lit → cap = es.length) (hcap : es.length ≤ cap) : Rep k.sg w' cx'.S (.list kd es) (.slice (some ⟨b, 0, none⟩) es.length cap) := by
  have hlt : ∀ (i : Nat) (x : PV) (j : Nat) (c : PV), es[i]? = some x → x.cells[j]? = some c → i * sz + j < l.length := by
    intro i x j c hx hc
    have hi : i < es.length := (List.getElem?_eq_some_iff.1 hx).1
    have hj : j < sz := by rw [← h.2.2.1 i x hx]; exact (List.getElem?_eq_some_iff.1 hc).1
    rw [h.1]
    have : (i + 1) * sz ≤ es.length * sz := Nat.mul_le_mul_right _ hi
    rw [Nat.add_mul, Nat.one_mul] at this
    omega
  refine .list kd es b 0 cap sz (fun i j => l.getD (i * sz + j) undef) hk hl hcap h.2.2.1 ?_ ?_
  · intro i x j c hx hc
    have hl := hlt i x j c hx hc
    have hg : l[i * sz + j]? = some (l.getD (i * sz + j) undef) := by simp [List.getD, List.getElem?_eq_getElem hl]
    rw [Nat.zero_add]
    exact ⟨hS _, by simp only [cellAt, World.cell?, hb]; simpa using hg, h.2.1 _ _ hg⟩
  · intro i x j c hx hc
    have hl := hlt i x j c hx hc
    exact h.2.2.2 i x j c _ hx hc (by simp [List.getD, List.getElem?_eq_getElem hl])

theorem ER.mono {w' : World} {cx' : Cx} {sz : Nat} {es : List PV} {l : List Value} (h : ER k w cx sz es l) (g : Le k.base X w cx w' cx') : ER k w' cx' sz es l :=
  ⟨h.1, h.2.1, h.2.2.1, fun i x j c v hx hc hv => (h.2.2.2 i x j c v hx hc hv).mono g.smono g.cells⟩

theorem buildSlice_sound (ok : KOk k) (fr : FR k X w cx fs a) {t len : Nat} {parts : Array (Nat × Operand)} {es : List PV}
    (h : buildSliceV k.E (fun x => (evalO k.E fs.env x).bind (pureA fs)) t len parts.toList = some es) :
    Quiet k w cx (Instr.buildSlice t len (parts.map fun q => (q.1, a.eval q.2))) (.p (.list .lit es)) := by
  unfold buildSliceV at h
  split at h
  · rename_i ti hti
    have ht := ok.ty t ti hti
    split at h
    · rename_i e hu
      have hd := und_slice ht hu
      split at h
      · rename_i te hte
        have hte' := ok.ty e te hte
        split at h
        · rename_i z hz
          split at h
          · rename_i hc
            obtain ⟨c1, c2, c3⟩ := hc
            obtain ⟨zv, z1, z2, z3, z4⟩ := zero_CR hte'
            have hzc : ∀ (j : Nat) (c : PV) (v : Value), z.cells[j]? = some c → zv.cells.toList[j]? = some v → Rep k.sg w cx.S c v := by
              obtain ⟨zv', y1, y2⟩ := zeroV_sound (k := k) hte' hz
              have : zv = zv' := by have := (z1 w).symm.trans (y1 w); simpa using this
              subst this
              have hcells := (y2 w cx).cells (by
                unfold zeroV at hz
                split at hz
                · simp only [Option.some.injEq, V.p.injEq] at hz; subst hz; rfl
                · split at hz
                  · rename_i x hx
                    simp only [Option.some.injEq, V.p.injEq] at hz; subst hz
                    obtain ⟨_, _, _, _, _, _, hs, _⟩ := tiOf_spec hte'
                    obtain ⟨s1, s2⟩ := scals_spec hs
                    rw [hx] at s1 s2
                    simp at s1
                    have hg := s2 0 _ _ (List.getElem?_eq_getElem (by simp [s1])) rfl
                    unfold scal at hg
                    split at hg <;> first | (cases hg; done) | (simp only [Option.some.injEq] at hg; subst hg; rfl)
                  · cases hz)
              intro j c v hc hv
              have := hcells.2.2 j (.p c) v (by simp [V.cells, hc]) hv
              cases this with | p _ _ h => exact h
            have hER := zero_ER (k := k) (w := w) (cx := cx) (len := len) c1 z3 c2 (z4 k w cx).2.1 hzc
            obtain ⟨cv', g1, g2, g3⟩ := litL_spec ok fr h (((List.range (len * te.size)).map fun i => zv.cells.toList.getD (i % te.size) undef).toArray) (by simpa using hER)
            have hlen : es.length = len := by simpa using g3
            have hsize : (w.alloc (.cells cv' e)).heap.size = w.heap.size + 1 := by simp
            have hk : ∀ b, b < w.heap.size → (w.alloc (.cells cv' e)).heap[b]? = w.heap[b]? := fun b hb => heap_alloc_old w _ b hb
            have le := fr.le_ext (w' := w.alloc (.cells cv' e)) (by omega) hk ⟨rfl, rfl⟩
            refine ⟨.slice (some ⟨w.heap.size, 0, none⟩) len len, w.alloc (.cells cv' e), ?_, by omega, hk, ⟨rfl, rfl⟩, ?_⟩
            · have hcells : (Array.range (len * te.size)).map (fun i => zv.cells[i % zv.cells.size]!) = ((List.range (len * te.size)).map fun i => zv.cells.toList.getD (i % te.size) undef).toArray := by
                have hzs : zv.cells.size = te.size := by simpa using z3
                apply Array.ext'
                simp only [Array.toList_map, Array.toList_range]
                apply List.map_congr_left
                intro i hi
                rw [hzs]
                have hm : i % te.size < zv.cells.size := by rw [hzs]; exact Nat.mod_lt _ c2
                simp [hm, List.getD]
              have hne : ∀ n, len = n + 1 → ¬ (len * te.size = 0) := by
                intro n hn h0
                rcases Nat.mul_eq_zero.1 h0 with h1 | h1 <;> omega
              by_cases hl0 : len * te.size = 0
              · have hlen0 : len = 0 := by rcases Nat.mul_eq_zero.1 hl0 with h1 | h1 <;> omega
                subst hlen0
                have g1' : Instr.fill (fun i => some (i * te.size, te.size)) #[] (parts.toList.map fun q => (q.1, a.eval q.2)) = some cv' := by simpa using g1
                simp only [Instr.buildSlice, Sem.run_bind, run_und hd, Result.andThen_ok, run_sizeOf hte']
                rw [if_neg (by omega), if_pos (by omega)]
                have hr0 : Array.range (0 * te.size) = #[] := by simp
                rw [hr0]
                have hp : (parts.map fun q => (q.1, a.eval q.2)).toList = parts.toList.map fun q => (q.1, a.eval q.2) := by simp
                simp only [Sem.run_pure, Result.andThen_ok, Array.map_empty, hp]
                rw [g1']
                simp [newRow]
              · simp only [Instr.buildSlice, Sem.run_bind, run_und hd, Result.andThen_ok, run_sizeOf hte']
                rw [if_neg (by omega), if_neg hl0]
                simp only [Sem.run_bind, Sem.run_pure, Result.andThen_ok, z1]
                have hp : (parts.map fun q => (q.1, a.eval q.2)).toList = parts.toList.map fun q => (q.1, a.eval q.2) := by simp
                rw [hcells, hp, g1]
                simp [newRow]
            · have hrep := list_new (k := k) (kd := .lit) (cap := len) (b := w.heap.size) (T := e) (l := cv'.toList) (g2.mono le)
                (by simpa using heap_alloc_new w (.cells cv' e)) (fun i => .inr ⟨Nat.le_refl _, by omega⟩) (by simp) (fun _ => hlen.symm) (by omega)
              rw [hlen] at hrep
              exact .p _ _ hrep
          · cases h
        · cases h
      · cases h
    · cases h
  · cases h
end

end Go.AE

namespace Go.AE
open Go

section
variable {k : K} {X : XR} {w : World} {cx : Cx} {fs : FS} {a : Act}

/-- The entries of a map, side by side. -/
def MR (k : K) (w : World) (cx : Cx) (es : List (PV × V)) (ms : List MapEntry) : Prop :=
  ms.length = es.length ∧ ∀ (i : Nat) (x : PV) (v : V) (m : MapEntry), es[i]? = some (x, v) → ms[i]? = some m → Rep k.sg w cx.S x m.key ∧ VR k.sg w cx v m.val

theorem MR.tail {e : PV × V} {m : MapEntry} {es : List (PV × V)} {ms : List MapEntry} (h : MR k w cx (e :: es) (m :: ms)) : Rep k.sg w cx.S e.1 m.key ∧ VR k.sg w cx e.2 m.val ∧ MR k w cx es ms := by
  have h0 := h.2 0 e.1 e.2 m rfl rfl
  exact ⟨h0.1, h0.2, by simpa using h.1, fun i x v n hx hn => h.2 (i + 1) x v n (by simpa using hx) (by simpa using hn)⟩

/-- Kinds of keys. -/
theorem keyEq_now {P : Program} {t : Nat} {ti : TI} (ht : tiOf P t = some ti) {x y : PV} {c d : Value} {S : Nat → Nat → Prop} {sg : Nat → Option Addr} (hx : Rep sg w S x c) (hy : Rep sg w S y d) {b : Bool} (hk : keyOk ti.und x = true) (h : keyEq x y = some b) :
    ∃ ds, P.underlying t = some ds ∧ Instr.sameNow ds c d = some b ∧ (b = true → Instr.sameBits 10000 d c = true) := by
  unfold keyEq at h
  split at h
  · rename_i k1 n1 k2 n2
    split at h
    · rename_i hkk
      subst hkk
      simp only [Option.some.injEq] at h; subst h
      cases hx; cases hy
      cases hu : ti.und <;> rw [hu] at hk <;> simp [keyOk] at hk
      exact ⟨_, und_int ht hu, by simp [Instr.sameNow], by intro e; simp at e; subst e; unfold Instr.sameBits; simp⟩
    · cases h
  · rename_i s1 s2
    simp only [Option.some.injEq] at h; subst h
    cases hx with | str b1 _ e1 =>
    cases hy with | str b2 _ e2 =>
    cases hu : ti.und <;> rw [hu] at hk <;> simp [keyOk] at hk
    subst e1; subst e2
    have hb : (b1 == b2) = (b1.data.toList == b2.data.toList) := by
      have h0 : (b1 == b2) = (b1.data == b2.data) := rfl
      rw [h0, Bool.eq_iff_iff, beq_iff_eq, beq_iff_eq]
      exact ⟨fun e => by rw [e], fun e => Array.toList_inj.1 e⟩
    refine ⟨_, und_str ht hu, by simp only [Instr.sameNow, hb], ?_⟩
    intro e
    have : b1.data = b2.data := Array.toList_inj.1 (beq_iff_eq.1 e)
    have h0 : (b2 == b1) = (b2.data == b1.data) := rfl
    unfold Instr.sameBits
    rw [h0, this]; simp
  · rename_i b1 b2
    simp only [Option.some.injEq] at h; subst h
    cases hx; cases hy
    cases hu : ti.und <;> rw [hu] at hk <;> simp [keyOk] at hk
    exact ⟨_, und_bool ht hu, by simp [Instr.sameNow], by intro e; simp at e; subst e; unfold Instr.sameBits; simp⟩
  · cases h

theorem keyOk_check {P : Program} {t : Nat} {ti : TI} (ht : tiOf P t = some ti) {x : PV} {c : Value} {S : Nat → Nat → Prop} {sg : Nat → Option Addr} (hx : Rep sg w S x c) (hk : keyOk ti.und x = true) (e : Bool) :
    (Instr.checkKey e 10000 t c).run P w = .ok () w := by
  obtain ⟨m, hm⟩ : ∃ m, 10000 = m + 1 := ⟨9999, rfl⟩
  rw [hm]
  unfold Instr.checkKey
  unfold keyOk at hk
  split at hk
  · rename_i k1 k2 n hu
    cases hx
    simp only [Sem.run_bind, run_und (und_int ht hu), Result.andThen_ok]; rfl
  · rename_i s hu
    cases hx
    simp only [Sem.run_bind, run_und (und_str ht hu), Result.andThen_ok]; rfl
  · rename_i b hu
    cases hx
    simp only [Sem.run_bind, run_und (und_bool ht hu), Result.andThen_ok]; rfl
  · cases hk

theorem keyOk_und {P : Program} {t : Nat} {ti : TI} (ht : tiOf P t = some ti) {x : PV} (hk : keyOk ti.und x = true) : ∃ ds, P.underlying t = some ds := by
  obtain ⟨i, d, z, _, hd, _⟩ := tiOf_spec ht
  exact ⟨d, hd⟩

theorem findK_now {P : Program} {t : Nat} {ti : TI} (ht : tiOf P t = some ti) {ds : TypeDesc} (hd : P.underlying t = some ds) {x : PV} {c : Value} (hx : Rep k.sg w cx.S x c) (hk : keyOk ti.und x = true) :
    ∀ {es : List (PV × V)} {ms : List MapEntry} (_ : MR k w cx es ms) (i : Nat) {r : Option V}, findK x es = some r →
      (r = none ∧ Instr.findNow ds c ms i = some none) ∨ ∃ v val j, r = some v ∧ Instr.findNow ds c ms i = some (some (j, val)) ∧ VR k.sg w cx v val := by
  intro es
  induction es with
  | nil =>
    intro ms hm i r h
    simp only [findK, Option.some.injEq] at h
    have : ms = [] := List.eq_nil_of_length_eq_zero (by simpa using hm.1)
    subst this
    exact .inl ⟨h.symm, rfl⟩
  | cons e rest ih =>
    intro ms hm i r h
    obtain ⟨y, v⟩ := e
    cases ms with
    | nil => have := hm.1; simp at this
    | cons m ms =>
      obtain ⟨h1, h2, h3⟩ := hm.tail
      simp only [findK] at h
      split at h
      · rename_i he
        simp only [Option.some.injEq] at h
        obtain ⟨ds', hd', hn, _⟩ := keyEq_now ht hx h1 hk he
        rw [hd] at hd'
        have : ds = ds' := by simpa using hd'
        subst this
        exact .inr ⟨v, m.val, i, h.symm, by simp [Instr.findNow, hn], h2⟩
      · rename_i he
        obtain ⟨ds', hd', hn, _⟩ := keyEq_now ht hx h1 hk he
        rw [hd] at hd'
        have : ds = ds' := by simpa using hd'
        subst this
        rcases ih h3 (i + 1) h with ⟨hr, hf⟩ | ⟨v', val, j, hr, hf, hv⟩
        · exact .inl ⟨hr, by simp [Instr.findNow, hn, hf]⟩
        · exact .inr ⟨v', val, j, hr, by simp [Instr.findNow, hn, hf], hv⟩
      · cases h

theorem FR.map (fr : FR k X w cx fs a) {r : Ref} {es : List (PV × V)} (h : fs.obj r = some (.map es)) (hal : cx.al r) :
    ∃ (b : Nat) (ms : List MapEntry) (ck : Nat), cx.blk r = some b ∧ w.heap[b]? = some (.map ⟨ms⟩ ck) ∧ MR k w cx es ms ∧
      (∀ (i j : Nat) (m n : MapEntry), i < j → ms[i]? = some m → ms[j]? = some n → m.born < n.born) ∧ ∀ m ∈ ms, m.born < ck := by
  obtain ⟨_, b, ms, ck, hb, hh, hl, hr, h1, h2⟩ := fr.obj r _ h hal
  exact ⟨b, ms, ck, hb, hh, ⟨hl, hr⟩, h1, h2⟩

theorem run_getObj {P : Program} {b : Nat} {ms : Array MapEntry} {ck : Nat} (h : w.heap[b]? = some (.map ms ck)) : (getObj b).run P w = .ok (.map ms ck) w := by
  simp [getObj, Sem.run, h]

theorem mapEs_sound (fr : FR k X w cx fs a) {x : V} {c : Value} (hx : VR k.sg w cx x c) {es : List (PV × V)} (h : mapEs fs x = some es) :
    (c = .map none ∧ es = []) ∨ ∃ b ms ck, c = .map (some b) ∧ w.heap[b]? = some (.map ⟨ms⟩ ck) ∧ MR k w cx es ms := by
  unfold mapEs at h
  split at h
  · simp only [Option.some.injEq] at h; subst h
    cases hx with | p _ _ hx =>
    cases hx
    exact .inl ⟨rfl, rfl⟩
  · rename_i r
    split at h
    · rename_i es' ho
      simp only [Option.some.injEq] at h; subst h
      cases hx with | map _ b hal hb =>
      obtain ⟨b', ms, ck, h1, h2, h3, _⟩ := fr.map ho hal
      have := hb b' h1; subst this
      exact .inr ⟨b, ms, ck, rfl, h2, h3⟩
    · cases h
  · cases h

theorem tup2 {v1 v2 : V} {c1 c2 : Value} (h1 : VR k.sg w cx v1 c1) (h2 : VR k.sg w cx v2 c2) : VR k.sg w cx (mkTup [v1, v2]) (.tuple #[c1, c2]) := by
  have := tup_rep (k := k) (w := w) (cx := cx) (cs := [v1, v2]) (l := [c1, c2]) rfl (by
    intro i c v hc hv
    match i with
    | 0 => simp at hc hv; subst hc; subst hv; exact h1
    | 1 => simp at hc hv; subst hc; subst hv; exact h2
    | (n + 2) => simp at hc)
  exact this

def lookTail (tk te : Nat) (d : Value) (okk : Bool) (es : Array MapEntry) : Sem Value := do
  Instr.checkKey es.isEmpty 10000 tk d
  let (v, ok) ← match ← Instr.findKey tk d es.toList with
    | some (_, v) => pure (v, true)
    | none => pure (← zeroValue te, false)
  pure (if okk then .tuple #[v, .bool ok] else v)

theorem lookup_nil {P : Program} {t tk te : Nat} (hd : P.underlying t = some (.map tk te)) {d : Value} {okk : Bool} :
    (Instr.lookup t (.map none) d okk).run P w = (lookTail tk te d okk #[]).run P w := by
  unfold Instr.lookup
  simp only [Sem.run_bind, run_und hd, Result.andThen_ok, Sem.run_pure, lookTail]
  first | done | rfl | (congr 1; funext _ _; congr 1; funext o _; cases o <;> rfl)

theorem lookup_of {P : Program} {t tk te : Nat} (hd : P.underlying t = some (.map tk te)) {d : Value} {okk : Bool} {b ck : Nat} {ms : Array MapEntry} (hb : w.heap[b]? = some (.map ms ck)) :
    (Instr.lookup t (.map (some b)) d okk).run P w = (lookTail tk te d okk ms).run P w := by
  unfold Instr.lookup
  simp only [Sem.run_bind, run_und hd, Result.andThen_ok, run_getObj hb, Sem.run_pure, lookTail]
  first | done | rfl | (congr 1; funext _ _; congr 1; funext o _; cases o <;> rfl)

theorem lookup_sound (ok : KOk k) (fr : FR k X w cx fs a) {t : Nat} {x key v : V} {c d : Value} {okk : Bool} (hx : VR k.sg w cx x c) (hkey : VR k.sg w cx key d) (h : lookupV k.E fs t x key okk = some v) :
    ∃ c', (Instr.lookup t c d okk).run k.E.P w = .ok c' w ∧ VR k.sg w cx v c' := by
  unfold lookupV at h
  split at h
  · rename_i ti kp hti
    have ht := ok.ty t ti hti
    split at h
    · rename_i tk te hu
      have hd := und_map ht hu
      split at h
      · rename_i ik ie es hik hie hes
        split at h
        · rename_i hkok
          have hkt := ok.ty tk ik hik
          have het := ok.ty te ie hie
          cases hkey with | p _ _ hkr =>
          have hfin : ∀ (v0 : V) (val : Value) (b : Bool), VR k.sg w cx v0 val → VR k.sg w cx (if okk then mkTup [v0, .p (.bool b)] else v0) (if okk then .tuple #[val, .bool b] else val) := by
            intro v0 val b hv
            cases okk
            · exact hv
            · exact tup2 hv (.p _ _ (.bool b))
          have main : ∀ (ms : List MapEntry), MR k w cx es ms → ∃ c', (lookTail tk te d okk ⟨ms⟩).run k.E.P w = .ok c' w ∧ VR k.sg w cx v c' := by
            intro ms hm
            obtain ⟨ds, hds⟩ := keyOk_und hkt hkok
            unfold lookTail
            simp only [Sem.run_bind, keyOk_check hkt hkr hkok, Result.andThen_ok, Instr.findKey, run_und hds]
            split at h
            · rename_i v0 hf
              simp only [Option.some.injEq] at h; subst h
              rcases findK_now hkt hds hkr hkok hm 0 hf with ⟨hr, _⟩ | ⟨v', val, j, hr, hn, hv⟩
              · cases hr
              · simp only [Option.some.injEq] at hr; subst hr
                simp only [hn, Sem.run_pure, Result.andThen_ok]
                exact ⟨_, rfl, hfin _ _ true hv⟩
            · rename_i hf
              simp only [Option.map_eq_some_iff] at h
              obtain ⟨z, hz, rfl⟩ := h
              obtain ⟨zv, z1, z2⟩ := zeroV_sound (k := k) het hz
              rcases findK_now hkt hds hkr hkok hm 0 hf with ⟨_, hn⟩ | ⟨v', val, j, hr, _, _⟩
              · simp only [hn, Sem.run_pure, Result.andThen_ok, Sem.run_bind, z1]
                exact ⟨_, rfl, hfin _ _ false (z2 w cx)⟩
              · cases hr
            · cases h
          rcases mapEs_sound fr hx hes with ⟨rfl, rfl⟩ | ⟨b, ms, ck, rfl, hb, hm⟩
          · rw [lookup_nil hd]
            exact main [] ⟨rfl, by simp⟩
          · rw [lookup_of hd hb]
            exact main ms hm
        · cases h
      · cases h
    · cases h
  · cases h

theorem undOf_iface {d : TypeDesc} (h : ∀ l, undOf d ≠ .iface l) : ∀ l, d ≠ .interface l := by
  intro l e
  subst e
  exact h _ rfl

theorem typeAssert_sound (ok : KOk k) {x v : V} {c : Value} {xt asserted : Nat} {okk : Bool} (hx : VR k.sg w cx x c) (h : typeAssertV k.E x asserted okk = some v) :
    ∃ c', (Instr.typeAssert c xt asserted okk).run k.E.P w = .ok c' w ∧ VR k.sg w cx v c' := by
  unfold typeAssertV at h
  split at h
  · cases h
  rename_i ti hti
  have ht := ok.ty asserted ti hti
  obtain ⟨_, d, _, _, hd, _, _, _, _, _, hu, _⟩ := tiOf_spec ht
  have hfail : ∀ z, okk = true → zeroV ti = some z → ∃ c', ((do pure (.tuple #[← zeroValue asserted, .bool false]) : Sem Value)).run k.E.P w = .ok c' w ∧ VR k.sg w cx (mkTup [z, .p (.bool false)]) c' := by
    intro z _ hz
    obtain ⟨zv, z1, z2⟩ := zeroV_sound (k := k) ht hz
    refine ⟨.tuple #[zv, .bool false], ?_, tup2 (z2 w cx) (.p _ _ (.bool false))⟩
    simp only [Sem.run_bind, z1, Result.andThen_ok, Sem.run_pure]
  unfold Instr.typeAssert
  simp only [Sem.run_bind, run_und hd, Result.andThen_ok]
  split at h
  · cases h
  · rename_i hni
    cases hx with | p _ _ hx =>
    cases hx
    have hd' : ∀ l, d ≠ .interface l := undOf_iface (fun l e => hni l (by rw [hu, e]))
    split at h
    · simp only [Option.map_eq_some_iff] at h
      obtain ⟨z, hz, rfl⟩ := h
      rename_i hok
      obtain ⟨c', h1, h2⟩ := hfail z hok hz
      refine ⟨c', ?_, h2⟩
      cases d <;> first | (exact absurd rfl (hd' _)) | (simpa [hok] using h1)
    · cases h
  · rename_i t p hni
    cases hx with | p _ _ hx =>
    cases hx with | iface _ _ c' hx =>
    have hd' : ∀ l, d ≠ .interface l := undOf_iface (fun l e => hni l (by rw [hu, e]))
    split at h
    · rename_i htt
      subst htt
      simp only [Option.some.injEq] at h; subst h
      refine ⟨if okk then .tuple #[c', .bool true] else c', ?_, ?_⟩
      · cases d <;> first | (exact absurd rfl (hd' _)) | (cases okk <;> simp)
      · cases okk
        · exact .p _ _ hx
        · exact tup2 (.p _ _ hx) (.p _ _ (.bool true))
    · rename_i htt
      split at h
      · rename_i hok
        simp only [Option.map_eq_some_iff] at h
        obtain ⟨z, hz, rfl⟩ := h
        obtain ⟨c', h1, h2⟩ := hfail z hok hz
        refine ⟨c', ?_, h2⟩
        cases d <;> first | (exact absurd rfl (hd' _)) | (simpa [hok, htt] using h1)
      · cases h
  · cases h
end

end Go.AE

namespace Go.AE
open Go

/-- A quiet operation's run, seen from the step. -/
def QN (k : K) (w : World) (cx : Cx) (s : Sem Next) (v : V) : Prop :=
  ∃ c w', s.run k.E.P w = .ok (.value c) w' ∧ w.heap.size ≤ w'.heap.size ∧ (∀ b, b < w.heap.size → w'.heap[b]? = w.heap[b]?) ∧ IO w w' ∧ VR k.sg w' (cx.addS w.heap.size w'.heap.size) v c

section
variable {k : K} {X : XR} {w : World} {cx : Cx} {fs : FS} {a : Act}

theorem QN.of {s : Sem Value} {v : V} (h : Quiet k w cx s v) : QN k w cx (do pure (.value (← s))) v := by
  obtain ⟨c, w', h1, h2⟩ := h
  exact ⟨c, w', by simp only [Sem.run_bind, h1, Result.andThen_ok, Sem.run_pure], h2⟩

theorem QN.at {s : Sem Value} {v : V} (h : ∃ c, s.run k.E.P w = .ok c w ∧ VR k.sg w cx v c) : QN k w cx (do pure (.value (← s))) v :=
  QN.of (Quiet.of h)

theorem QN.now {s : Sem Next} {c : Value} {v : V} (h1 : s.run k.E.P w = .ok (.value c) w) (h2 : VR k.sg w cx v c) : QN k w cx s v :=
  ⟨c, w, h1, Nat.le_refl _, fun _ _ => rfl, .refl w, h2.lift (fun _ _ h => .inl h) fun _ h => ⟨h, rfl, rfl⟩⟩

theorem QN.pure {c : Value} {v : V} (h : VR k.sg w cx v c) : QN k w cx (pure (.value c)) v := QN.now rfl h

theorem lenOp_sound (ok : KOk k) (fr : FR k X w cx fs a) {t : Nat} {ts : Array TypeId} (ht0 : ts[0]? = some t) {ty : Nat} {x v : V} {c : Value} {args : Array Value} (ha : args[0]? = some c) (hx : VR k.sg w cx x c) (h : lenOp k.E fs t x = some v) :
    ∃ c', (Builtin.len_ ts ty args).run k.E.P w = .ok c' w ∧ VR k.sg w cx v c' := by
  unfold lenOp at h
  split at h
  · cases h
  rename_i ti hti
  have ht := ok.ty t ti hti
  unfold Builtin.len_
  simp only [ht0, ha, Sem.run_bind]
  split at h
  · rename_i n e hu
    simp only [Option.some.injEq] at h; subst h
    refine ⟨.int .i64 n, ?_, .p _ _ (.int _ _)⟩
    simp only [run_und (und_arr ht hu), Result.andThen_ok]
    cases c <;> rfl
  · rename_i s hu
    simp only [Option.some.injEq] at h; subst h
    cases hx with | p _ _ hx =>
    cases hx with | str b _ e1 =>
    subst e1
    refine ⟨.int .i64 b.size, ?_, ?_⟩
    · simp only [run_und (und_str ht hu), Result.andThen_ok]; rfl
    · have : b.data.toList.length = b.size := by simp
      rw [this]; exact .p _ _ (.int _ _)
  · rename_i e k1 es hu
    simp only [Option.some.injEq] at h; subst h
    cases hx with | p _ _ hx =>
    refine ⟨.int .i64 es.length, ?_, .p _ _ (.int _ _)⟩
    simp only [run_und (und_slice ht hu), Result.andThen_ok]
    cases hx <;> rfl
  · rename_i e r n hu
    split at h
    · split at h
      · simp only [Option.some.injEq] at h; subst h
        cases hx
        refine ⟨.int .i64 n, ?_, .p _ _ (.int _ _)⟩
        simp only [run_und (und_slice ht hu), Result.andThen_ok]
        rfl
      · cases h
    · cases h
  · rename_i tk te _ hu
    simp only [Option.map_eq_some_iff] at h
    obtain ⟨es, he, rfl⟩ := h
    rcases mapEs_sound fr hx he with ⟨rfl, rfl⟩ | ⟨b, ms, ck, rfl, hb, hm⟩
    · refine ⟨.int .i64 0, ?_, .p _ _ (.int _ _)⟩
      simp only [run_und (und_map ht hu), Result.andThen_ok]
      rfl
    · refine ⟨.int .i64 es.length, ?_, .p _ _ (.int _ _)⟩
      simp only [run_und (und_map ht hu), Result.andThen_ok, Sem.run_bind, run_getObj hb, Sem.run_pure, goInt]
      have : (⟨ms⟩ : Array MapEntry).size = es.length := hm.1
      rw [this]
  · cases h

theorem minMax_sound {mx : Bool} {f : Value → Value → Sem Value} (hf : f = if mx then Builtin.max2 else Builtin.min2) : ∀ {ys : List V} {x v : V} {c : Value} {ds : List Value} (_ : VR k.sg w cx x c)
    (_ : ds.length = ys.length) (_ : ∀ (i : Nat) (y : V) (d : Value), ys[i]? = some y → ds[i]? = some d → VR k.sg w cx y d), foldO (minMax mx) x ys = some v →
    ∃ c', (ds.foldlM f c).run k.E.P w = .ok c' w ∧ VR k.sg w cx v c' := by
  intro ys
  induction ys with
  | nil =>
    intro x v c ds hx hl _ h
    have : ds = [] := List.eq_nil_of_length_eq_zero (by simpa using hl)
    subst this
    simp only [foldO, Option.some.injEq] at h; subst h
    exact ⟨c, rfl, hx⟩
  | cons y r ih =>
    intro x v c ds hx hl hd h
    cases ds with
    | nil => simp at hl
    | cons d ds =>
      simp only [foldO] at h
      split at h
      · rename_i z hz
        have hy := hd 0 y d rfl rfl
        unfold minMax at hz
        split at hz
        · rename_i k1 x1 k2 y1
          split at hz
          · rename_i hkk
            subst hkk
            simp only [Option.some.injEq] at hz
            cases hx with | p _ _ hx =>
            cases hx
            cases hy with | p _ _ hy =>
            cases hy
            have hr : (f (.int k1 x1) (.int k1 y1)).run k.E.P w = .ok (.int k1 (if mx then (if y1 > x1 then y1 else x1) else (if y1 < x1 then y1 else x1))) w := by
              subst hf; cases mx <;> rfl
            obtain ⟨c', h1, h2⟩ := ih (x := z) (c := .int k1 (if mx then (if y1 > x1 then y1 else x1) else (if y1 < x1 then y1 else x1))) (ds := ds) (by subst hz; exact .p _ _ (.int _ _)) (by simpa using hl)
              (fun i y d hy hd' => hd (i + 1) y d (by simpa using hy) (by simpa using hd')) h
            refine ⟨c', ?_, h2⟩
            simp only [List.foldlM_cons, Sem.run_bind, hr, Result.andThen_ok, h1]
          · cases hz
        · cases hz
      · cases h

theorem mapO_evals (ok : KOk k) (fr : FR k X w cx fs a) {g : V → Option V} (hg : ∀ {v v' : V} {c : Value}, VR k.sg w cx v c → g v = some v' → VR k.sg w cx v' c) :
    ∀ {xs : List Operand} {vs : List V}, mapO (fun x => (evalO k.E fs.env x).bind g) xs = some vs → (xs.map a.eval).length = vs.length ∧
      ∀ (i : Nat) (v : V) (c : Value), vs[i]? = some v → (xs.map a.eval)[i]? = some c → VR k.sg w cx v c := by
  intro xs
  induction xs with
  | nil => intro vs h; simp [mapO] at h; subst h; simp
  | cons x r ih =>
    intro vs h
    simp only [mapO] at h
    split at h
    · rename_i y ys hy hys
      simp only [Option.some.injEq] at h; subst h
      obtain ⟨h1, h2⟩ := ih hys
      refine ⟨by simpa using h1, fun i v c hv hc => ?_⟩
      cases i with
      | zero =>
        simp only [Option.bind_eq_some_iff] at hy
        obtain ⟨y0, hy0, hy1⟩ := hy
        simp at hv hc; subst hv; subst hc
        exact hg (fr.eval ok hy0) hy1
      | succ i => exact h2 i v c (by simpa using hv) (by simpa using hc)
    · cases h

theorem mapO_eval (ok : KOk k) (fr : FR k X w cx fs a) {xs : List Operand} {vs : List V} (h : mapO (evalO k.E fs.env) xs = some vs) : (xs.map a.eval).length = vs.length ∧
      ∀ (i : Nat) (v : V) (c : Value), vs[i]? = some v → (xs.map a.eval)[i]? = some c → VR k.sg w cx v c := by
  refine mapO_evals ok fr (g := some) (fun hv e => by simp only [Option.some.injEq] at e; subst e; exact hv) ?_
  rw [← h]; congr 1; funext x; cases evalO k.E fs.env x <;> rfl

theorem optO_sound (ok : KOk k) (fr : FR k X w cx fs a) (x : Option Operand) : OV k w cx (optO (evalO k.E fs.env) x) (x.map a.eval) := by
  cases x with
  | none => trivial
  | some x =>
    simp only [optO, Option.map_some]
    cases h : evalO k.E fs.env x with
    | none => trivial
    | some v => exact fr.eval ok h

theorem mkFunc_sound {fn : Fn} {p q : List V} {x y : List Value} (hx : x.length = p.length) (hy : y.length = q.length)
    (ha : ∀ (i : Nat) (c : V) (v : Value), p[i]? = some c → x[i]? = some v → VR k.sg w cx c v) (hb : ∀ (i : Nat) (c : V) (v : Value), q[i]? = some c → y[i]? = some v → VR k.sg w cx c v) :
    VR k.sg w cx (mkFunc fn p q) (.func fn ⟨x⟩ ⟨y⟩) := by
  unfold mkFunc
  split
  · rename_i p' q' hp hq
    have e1 := unp_spec hp; subst e1
    have e2 := unp_spec hq; subst e2
    refine .p _ _ (.func fn p' q' x y (by simpa using hx) (by simpa using hy) (fun i c v hc hv => ?_) fun i c v hc hv => ?_)
    · have := ha i (.p c) v (by simp [hc]) hv
      cases this; assumption
    · have := hb i (.p c) v (by simp [hc]) hv
      cases this; assumption
  · exact .func fn p q x y hx hy ha hb

theorem run_asBool {P : Program} (b : Bool) (w : World) : (asBool (.bool b)).run P w = .ok b w := rfl

theorem run_nilCheck {P : Program} {w : World} {ρ : Operand → Value} {o : Oper} {x : Operand} (ho : o.op = .nilCheck x) (h : (∃ ad, ρ x = .pointer (some ad)) ∨ ∃ f p q, ρ x = .func (.func f) p q) :
    (execOp ρ o).run P w = .ok (.value (ρ x)) w := by
  unfold execOp
  rcases h with ⟨ad, h⟩ | ⟨f, p, q, h⟩ <;> simp only [ho, h] <;> rfl

theorem map_args {xs : Array Operand} : xs.map a.eval = ⟨xs.toList.map a.eval⟩ := by
  apply Array.ext'; simp

theorem quiet_sound (ok : KOk k) (fr : FR k X w cx fs a) {o : Oper} {v : V} (h : qV k.E fs o.op = some v) : QN k w cx (execOp a.eval o) v := by
  obtain ⟨dst, op, type, pos, after, guard⟩ := o
  simp only at h
  unfold qV at h
  split at h
  · exact QN.pure (fr.eval ok h)
  · exact QN.pure (fr.eval ok h)
  · rename_i cc x y
    split at h
    · rename_i t vx vy hc hx hy
      simp only [Option.some.injEq] at h; subst h
      have h1 := fr.eval ok hc
      have h2 := fr.eval ok hx
      have h3 := fr.eval ok hy
      have hcc : a.eval cc = .bool t := by
        generalize a.eval cc = c1 at h1
        cases h1 with | p _ _ h1 =>
        cases h1; rfl
      refine QN.now (c := if t then a.eval x else a.eval y) ?_ ?_
      · unfold execOp
        simp only [hcc, Sem.run_bind, run_asBool, Result.andThen_ok, Sem.run_pure]
      · cases t
        · exact h3
        · exact h2
    · cases h
  · exact QN.at (build_sound ok fr h)
  · simp only [Option.map_eq_some_iff] at h
    obtain ⟨es, he, rfl⟩ := h
    exact QN.of (buildSlice_sound ok fr he)
  · split at h
    · rename_i ti p hT hp
      exact QN.at (load_sound ok fr hT (fr.eval ok hp) h)
    · cases h
  · rename_i x
    split at h
    · rename_i cs off he
      simp only [Option.some.injEq] at h; subst h
      have h1 := fr.eval ok he
      refine QN.now (c := a.eval x) ?_ h1
      refine run_nilCheck rfl ?_
      generalize a.eval x = c at h1
      cases h1 with | p _ _ h1 =>
      cases h1
      first | exact .inl ⟨_, rfl⟩ | exact .inr ⟨_, _, _, rfl⟩
    · rename_i r off he
      simp only [Option.some.injEq] at h; subst h
      have h1 := fr.eval ok he
      refine QN.now (c := a.eval x) ?_ h1
      refine run_nilCheck rfl ?_
      generalize a.eval x = c at h1
      cases h1
      first | exact .inl ⟨_, rfl⟩ | exact .inr ⟨_, _, _, rfl⟩
    · rename_i r n i off he
      simp only [Option.some.injEq] at h; subst h
      have h1 := fr.eval ok he
      refine QN.now (c := a.eval x) ?_ h1
      refine run_nilCheck rfl ?_
      generalize a.eval x = c at h1
      cases h1
      first | exact .inl ⟨_, rfl⟩ | exact .inr ⟨_, _, _, rfl⟩
    · rename_i f p q he
      simp only [Option.some.injEq] at h; subst h
      have h1 := fr.eval ok he
      refine QN.now (c := a.eval x) ?_ h1
      refine run_nilCheck rfl ?_
      generalize a.eval x = c at h1
      cases h1 with | p _ _ h1 =>
      cases h1
      first | exact .inl ⟨_, rfl⟩ | exact .inr ⟨_, _, _, rfl⟩
    · rename_i f p q he
      simp only [Option.some.injEq] at h; subst h
      have h1 := fr.eval ok he
      refine QN.now (c := a.eval x) ?_ h1
      refine run_nilCheck rfl ?_
      generalize a.eval x = c at h1
      cases h1
      first | exact .inl ⟨_, rfl⟩ | exact .inr ⟨_, _, _, rfl⟩
    · cases h
  · split at h
    · rename_i hx hy
      exact QN.at (bin_sound ok fr (fr.eval ok hx) (fr.eval ok hy) h)
    · cases h
  · simp only [Option.bind_eq_some_iff] at h
    obtain ⟨x', hx, h⟩ := h
    exact QN.at (un_sound (fr.eval ok hx) h)
  · simp only [Option.bind_eq_some_iff] at h
    obtain ⟨x', hx, h⟩ := h
    exact QN.of (conv_sound ok fr (fr.eval ok hx) h)
  · rename_i t x
    split at h
    · rename_i ti p hT hp
      simp only [Option.bind_eq_some_iff] at hp
      obtain ⟨v0, hv0, hp⟩ := hp
      have hr := pureA_sound fr (fr.eval ok hv0) hp
      split at h
      · cases h
      · rename_i hni
        simp only [Option.some.injEq] at h; subst h
        refine QN.at ⟨.iface t (a.eval x), ?_, .p _ _ (.iface _ _ _ hr)⟩
        obtain ⟨_, d, _, _, hd, _, _, _, _, _, hu, _⟩ := tiOf_spec (ok.ty t ti hT)
        have hd' : ∀ l, d ≠ .interface l := undOf_iface (fun l e => hni l (by rw [hu, e]))
        unfold Instr.makeInterface
        simp only [Sem.run_bind, run_und hd, Result.andThen_ok]
        cases d <;> first | (exact absurd rfl (hd' _)) | rfl
    · cases h
  · rename_i fn first captured
    split at h
    · rename_i p q hp hq
      simp only [Option.some.injEq] at h; subst h
      obtain ⟨l1, e1⟩ := mapO_evals ok fr (fun hv he => expS_sound fr hv he) hp
      obtain ⟨l2, e2⟩ := mapO_evals ok fr (fun hv he => expS_sound fr hv he) hq
      refine QN.at ⟨_, rfl, ?_⟩
      rw [map_args, map_args]
      exact mkFunc_sound l1 l2 e1 e2
    · cases h
  · simp only [Option.bind_eq_some_iff] at h
    obtain ⟨x', hx, h⟩ := h
    exact QN.at (slice_sound ok fr (fr.eval ok hx) (optO_sound ok fr _) (optO_sound ok fr _) (optO_sound ok fr _) h)
  · split at h
    · rename_i hf hx
      exact QN.at (fieldAddr_sound ok hf (fr.eval ok hx) h)
    · cases h
  · split at h
    · rename_i hf hx
      exact QN.at (field_sound ok hf (fr.eval ok hx) h)
    · cases h
  · rename_i t x i
    split at h
    · rename_i vx n hx hi
      simp only [Option.bind_eq_some_iff] at hi
      obtain ⟨vi, hi1, hi2⟩ := hi
      obtain ⟨kk, hk⟩ := idxOf_spec hi2 (fr.eval ok hi1)
      have := indexAddr_sound (kk := kk) ok fr (fr.eval ok hx) h
      rw [← hk] at this
      exact QN.at this
    · cases h
  · rename_i t x i
    split at h
    · rename_i vx n hx hi
      simp only [Option.bind_eq_some_iff] at hi
      obtain ⟨vi, hi1, hi2⟩ := hi
      obtain ⟨kk, hk⟩ := idxOf_spec hi2 (fr.eval ok hi1)
      have := index_sound (kk := kk) ok (fr.eval ok hx) h
      rw [← hk] at this
      exact QN.at this
    · cases h
  · split at h
    · rename_i hx hk
      exact QN.at (lookup_sound ok fr (fr.eval ok hx) (fr.eval ok hk) h)
    · cases h
  · simp only [Option.bind_eq_some_iff] at h
    obtain ⟨x', hx, h⟩ := h
    exact QN.at (typeAssert_sound ok (fr.eval ok hx) h)
  · simp only [Option.bind_eq_some_iff] at h
    obtain ⟨x', hx, h⟩ := h
    exact QN.at (extract_sound (fr.eval ok hx) h)
  · rename_i c
    obtain ⟨callee, args, argTypes⟩ := c
    simp only at h
    split at h
    · rename_i x r hargs
      split at h
      · rename_i t r' htys
        simp only [Option.bind_eq_some_iff] at h
        obtain ⟨x', hx, h⟩ := h
        have h0 : (args.map a.eval)[0]? = some (a.eval x) := by
          rw [map_args, hargs]; rfl
        have h0' : argTypes[0]? = some t := by
          rw [← Array.getElem?_toList, htys]; rfl
        exact QN.at (lenOp_sound ok fr h0' (ty := type) h0 (fr.eval ok hx) h)
      · cases h
    · rename_i x r hargs
      split at h
      · rename_i v0 vs hx hvs
        obtain ⟨l1, e1⟩ := mapO_eval ok fr hvs
        obtain ⟨c', h1, h2⟩ := minMax_sound (k := k) (w := w) (cx := cx) (mx := false) (f := Builtin.min2) rfl (fr.eval ok hx) l1 e1 h
        refine QN.at (s := Builtin.min_ argTypes type (args.map a.eval)) ⟨c', ?_, h2⟩
        unfold Builtin.min_
        have : (args.map a.eval).toList = a.eval x :: r.map a.eval := by rw [map_args, hargs]; rfl
        rw [this]
        exact h1
      · cases h
    · rename_i x r hargs
      split at h
      · rename_i v0 vs hx hvs
        obtain ⟨l1, e1⟩ := mapO_eval ok fr hvs
        obtain ⟨c', h1, h2⟩ := minMax_sound (k := k) (w := w) (cx := cx) (mx := true) (f := Builtin.max2) rfl (fr.eval ok hx) l1 e1 h
        refine QN.at (s := Builtin.max_ argTypes type (args.map a.eval)) ⟨c', ?_, h2⟩
        unfold Builtin.max_
        have : (args.map a.eval).toList = a.eval x :: r.map a.eval := by rw [map_args, hargs]; rfl
        rw [this]
        exact h1
      · cases h
    · cases h
  · cases h
end

end Go.AE

namespace Go.AE
open Go

deriving instance DecidableEq for Ref

theorem lkp_upd (l : List (Nat × Obj)) (i j : Nat) (o : Obj) (h : (lkp l i).isSome) : lkp (upd l i o) j = if j = i then some o else lkp l j := by
  induction l with
  | nil => simp [lkp] at h
  | cons p r ih =>
    obtain ⟨n, x⟩ := p
    simp only [lkp, upd] at h ⊢
    by_cases hn : n = i
    · subst hn
      simp only [if_true]
      simp only [lkp]
      by_cases hj : n = j
      · subst hj; simp
      · have : ¬ j = n := fun e => hj e.symm
        simp [hj, this]
    · simp only [hn, if_false] at h ⊢
      simp only [lkp]
      by_cases hj : n = j
      · subst hj; simp [hn]
      · simp only [hj, if_false]; exact ih h

def Ref.fits (fs : FS) : Ref → Prop
  | .loc id => id < fs.nid
  | .glob n => n < fs.st.next

section
variable {k : K} {X : XR} {w w' : World} {cx cx' : Cx} {fs fs' : FS} {a : Act}

/-- One object is new, or has turned. -/
theorem FR.upd (fr : FR k X w cx fs a) (r0 : Ref) (o : Obj) (le : Le k.base X w cx w' cx')
    (hb : ∀ r, r ≠ r0 → cx'.blk r = cx.blk r ∧ cx'.vec r = cx.vec r)
    (hal : ∀ r, cx'.al r ↔ cx.al r ∨ r = r0)
    (hobj : ∀ r, fs'.obj r = if r = r0 then some o else fs.obj r)
    (hnid : fs.nid ≤ fs'.nid) (hnext : fs.st.next ≤ fs'.st.next) (henv : fs'.env = fs.env)
    (hr0 : r0.fits fs') (hx0 : ¬ X.n r0)
    (hh : ∀ b, b < w.heap.size → cx.own r0 ≠ some b → w'.heap[b]? = w.heap[b]? ∧ ∀ i, cx'.S b i ↔ cx.S b i)
    (hS : ∀ b i, cx'.S b i → b < w'.heap.size)
    (hown : ∀ b, cx'.own r0 = some b → k.base ≤ b ∧ b < w'.heap.size ∧ ¬ X b ∧ (cx.own r0 = some b ∨ w.heap.size ≤ b))
    (hor : OR k w' cx' r0 o) (hgl : ∀ n, r0 = .glob n → globO o = true := by intro _ _; rfl) : FR k X w' cx' fs' a := by
  have own_ne : ∀ r, r ≠ r0 → cx'.own r = cx.own r := by
    intro r hr
    obtain ⟨h1, h2⟩ := hb r hr
    unfold Cx.own
    rw [h1, h2]
  refine ⟨Nat.le_trans fr.size le.size, fun b hb' => (le.kept b (.inl hb')).trans (fr.pre b hb'), fun b hb' i => le.smono b i (fr.preS b hb' i), hS, ?_, ?_, ?_, ?_,
    fun b hx => Nat.lt_of_lt_of_le (fr.xlt b hx) le.size, ?_, ?_, ?_, ?_, by rw [henv]; exact fr.len, fun i v c hv hc => by rw [henv] at hv; exact (fr.env i v c hv hc).mono le, fr.defers, ?_, fun r hr => ?_⟩
  · intro r o' ho ha
    rw [hobj] at ho
    by_cases hr : r = r0
    · subst hr
      simp only [if_true, Option.some.injEq] at ho; subst ho
      exact hor
    · simp only [hr, if_false] at ho
      have ha' : cx.al r := ((hal r).1 ha).resolve_right hr
      obtain ⟨h1, h2⟩ := hb r hr
      refine (fr.obj r o' ho ha').mono le h1 h2 fun b hb' => ?_
      exact hh b (fr.own1 r b hb').2.1 fun e => hr (fr.own2 r r0 b hb' e)
  · intro r h
    have hr : r ≠ r0 := by
      intro e; subst e
      exact h ((hal r).2 (.inr rfl))
    obtain ⟨h1, h2⟩ := hb r hr
    rw [h1, h2]
    exact fr.non r fun e => h ((hal r).2 (.inl e))
  · intro r b hb'
    by_cases hr : r = r0
    · subst hr
      obtain ⟨h1, h2, h3, _⟩ := hown b hb'
      exact ⟨h1, h2, h3⟩
    · rw [own_ne r hr] at hb'
      obtain ⟨h1, h2, h3⟩ := fr.own1 r b hb'
      exact ⟨h1, Nat.lt_of_lt_of_le h2 le.size, h3⟩
  · have main : ∀ r b, r ≠ r0 → cx'.own r = some b → cx'.own r0 = some b → False := by
      intro r b hr h1 h2
      rw [own_ne r hr] at h1
      obtain ⟨_, _, _, h | h⟩ := hown b h2
      · exact hr (fr.own2 r r0 b h1 h)
      · have := (fr.own1 r b h1).2.1; omega
    intro r r' b h1 h2
    by_cases hr : r = r0
    · subst hr
      by_cases hr' : r' = r
      · exact hr'.symm
      · exact (main r' b hr' h2 h1).elim
    · by_cases hr' : r' = r0
      · subst hr'
        exact (main r b hr h1 h2).elim
      · rw [own_ne r hr] at h1
        rw [own_ne r' hr'] at h2
        exact fr.own2 r r' b h1 h2
  · intro id h
    rcases (hal _).1 h with h | h
    · exact Nat.lt_of_lt_of_le (fr.alL id h) hnid
    · subst h; exact hr0
  · intro n h
    rcases (hal _).1 h with h | h
    · exact Nat.lt_of_lt_of_le (fr.alG n h) hnext
    · subst h; exact hr0
  · intro id o' ho
    rw [hobj] at ho
    by_cases hr : Ref.loc id = r0
    · subst hr; exact hr0
    · simp only [hr, if_false] at ho
      exact Nat.lt_of_lt_of_le (fr.obL id o' ho) hnid
  · intro n o' ho
    rw [hobj] at ho
    by_cases hr : Ref.glob n = r0
    · subst hr; exact hr0
    · simp only [hr, if_false] at ho
      exact Nat.lt_of_lt_of_le (fr.obG n o' ho) hnext
  · intro n o' ho
    rw [hobj] at ho
    by_cases hr : Ref.glob n = r0
    · subst hr
      simp only [if_true, Option.some.injEq] at ho; subst ho
      exact hgl n rfl
    · simp only [hr, if_false] at ho
      exact fr.gl n o' ho
  · obtain ⟨h1, h2⟩ := fr.res r hr
    refine ⟨fun h => ?_, ?_⟩
    · rcases (hal _).1 h with h | h
      · exact h1 h
      · subst h; exact hx0 hr
    · cases r with
      | loc id => exact Nat.lt_of_lt_of_le h2 hnid
      | glob n => exact Nat.lt_of_lt_of_le h2 hnext

theorem obj_new (fs : FS) (g : Bool) (o : Obj) : ∀ r, (fs.newObj g o).2.obj r = if r = (fs.newObj g o).1 then some o else fs.obj r := by
  intro r
  cases g <;> cases r <;> simp [FS.newObj, FS.obj, St.push, lkp]
  · rename_i id
    by_cases h : fs.nid = id
    · subst h; simp
    · have : ¬ id = fs.nid := fun e => h e.symm
      simp [h, this]

theorem obj_set (fs : FS) (r0 : Ref) (o : Obj) (h : (fs.obj r0).isSome) : ∀ r, (fs.setObj r0 o).obj r = if r = r0 then some o else fs.obj r := by
  intro r
  cases r0 with
  | loc i =>
    cases r with
    | loc j =>
      simp only [FS.setObj, FS.obj, Ref.loc.injEq]
      exact lkp_upd _ _ _ _ h
    | glob n => simp [FS.setObj, FS.obj]
  | glob m =>
    cases r with
    | loc j => simp [FS.setObj, FS.obj]
    | glob n => simp [FS.setObj, FS.obj, St.set]

theorem new_fresh (fr : FR k X w cx fs a) (g : Bool) (o : Obj) : ¬ cx.al (fs.newObj g o).1 ∧ cx.blk (fs.newObj g o).1 = none ∧ cx.vec (fs.newObj g o).1 = none := by
  have h : ¬ cx.al (fs.newObj g o).1 := by
    cases g
    · intro h; exact Nat.lt_irrefl _ (fr.alL _ h)
    · intro h; exact Nat.lt_irrefl _ (fr.alG _ h)
  exact ⟨h, fr.non _ h⟩

theorem new_unres (fr : FR k X w cx fs a) (g : Bool) (o : Obj) : ¬ X.n (fs.newObj g o).1 := by
  cases g
  · intro h; exact Nat.lt_irrefl _ (fr.res _ h).2
  · intro h; exact Nat.lt_irrefl _ (fr.res _ h).2

/-- With a new object in memory, with a block of its own or without. -/
def Cx.newBlk (cx : Cx) (r : Ref) (b : Nat) : Cx := { cx with blk := fun q => if q = r then some b else cx.blk q, al := fun q => cx.al q ∨ q = r }
def Cx.newVec (cx : Cx) (r : Ref) (q0 : VC) (S : Nat → Nat → Prop) : Cx := { cx with vec := fun q => if q = r then some q0 else cx.vec q, al := fun q => cx.al q ∨ q = r, S := fun b i => cx.S b i ∨ S b i }

theorem le_newBlk (fr : FR k X w cx fs a) {r : Ref} (hr : ¬ cx.al r) {b : Nat} (hs : w.heap.size ≤ w'.heap.size) (hk : ∀ b, b < w.heap.size → w'.heap[b]? = w.heap[b]?) (io : IO w w') : Le k.base X w cx w' (cx.newBlk r b) where
  size := hs
  kept b hb := hk b (hb.elim (fun hb => Nat.lt_of_lt_of_le hb fr.size) (fr.xlt b))
  cells b i v hS hv := by rw [cellAt_of_heap (hk b (fr.slt b i hS)), hv]
  smono b i hS := hS
  snew b i hS := .inl hS
  al r h := .inl h
  blk q b' hq h := by
    have : q ≠ r := fun e => hr (e ▸ hq)
    simpa [Cx.newBlk, this] using h
  vec r q _ h := ⟨q, h, Nat.le_refl _, fun _ => rfl⟩
  io := io

theorem le_newVec (fr : FR k X w cx fs a) {r : Ref} (hr : ¬ cx.al r) {q0 : VC} {S : Nat → Nat → Prop} (hs : w.heap.size ≤ w'.heap.size) (hk : ∀ b, b < w.heap.size → w'.heap[b]? = w.heap[b]?) (io : IO w w')
    (hS : ∀ b i, S b i → w.heap.size ≤ b ∧ b < w'.heap.size) : Le k.base X w cx w' (cx.newVec r q0 S) where
  size := hs
  kept b hb := hk b (hb.elim (fun hb => Nat.lt_of_lt_of_le hb fr.size) (fr.xlt b))
  cells b i v hS hv := by rw [cellAt_of_heap (hk b (fr.slt b i hS)), hv]
  smono b i hS := .inl hS
  snew b i h := by
    rcases h with h | h
    · exact .inl h
    · exact .inr fun hx => by have := fr.xlt b hx; have := (hS b i h).1; omega
  al r h := .inl h
  blk q b' hq h := h
  vec q q1 hq h := by
    have : q ≠ r := fun e => hr (e ▸ hq)
    refine ⟨q1, by simpa [Cx.newVec, this] using h, Nat.le_refl _, fun _ => rfl⟩
  io := io

theorem FR.newBlk (fr : FR k X w cx fs a) (g : Bool) (o : Obj) {b : Nat} (hs : w.heap.size ≤ w'.heap.size) (hk : ∀ b, b < w.heap.size → w'.heap[b]? = w.heap[b]?) (io : IO w w') (h1 : w.heap.size ≤ b) (h2 : b < w'.heap.size)
    (hor : OR k w' (cx.newBlk (fs.newObj g o).1 b) (fs.newObj g o).1 o) (hgl : g = true → globO o = true) : FR k X w' (cx.newBlk (fs.newObj g o).1 b) (fs.newObj g o).2 a := by
  obtain ⟨ha, hb0, hv0⟩ := new_fresh fr g o
  refine fr.upd (fs.newObj g o).1 o (le_newBlk fr ha hs hk io) (fun r hr => ⟨by simp [Cx.newBlk, hr], rfl⟩) (fun r => Iff.rfl) (obj_new fs g o) ?_ ?_ ?_ ?_ (new_unres fr g o) (fun b hb _ => ⟨hk b hb, fun i => Iff.rfl⟩)
    (fun b i hS => Nat.lt_of_lt_of_le (fr.slt b i hS) hs) (fun b' hb' => ?_) hor (fun n e => hgl (by cases g <;> simp [FS.newObj] at e ⊢))
  · cases g <;> simp [FS.newObj]
  · cases g <;> simp [FS.newObj, St.push]
  · cases g <;> rfl
  · cases g <;> simp [FS.newObj, Ref.fits, St.push]
  · have : b' = b := by simpa [Cx.own, Cx.newBlk] using hb'.symm
    subst this
    exact ⟨Nat.le_trans fr.size h1, h2, fun hx => by have := fr.xlt _ hx; omega, .inr h1⟩

theorem FR.newVec (fr : FR k X w cx fs a) (g : Bool) (o : Obj) {q0 : VC} {S : Nat → Nat → Prop} (hs : w.heap.size ≤ w'.heap.size) (hk : ∀ b, b < w.heap.size → w'.heap[b]? = w.heap[b]?) (io : IO w w') (hS : ∀ b i, S b i → w.heap.size ≤ b ∧ b < w'.heap.size)
    (hq : ∀ b, q0.blk = some b → w.heap.size ≤ b ∧ b < w'.heap.size)
    (hor : OR k w' (cx.newVec (fs.newObj g o).1 q0 S) (fs.newObj g o).1 o) (hgl : globO o = true := by rfl) : FR k X w' (cx.newVec (fs.newObj g o).1 q0 S) (fs.newObj g o).2 a := by
  obtain ⟨ha, hb0, hv0⟩ := new_fresh fr g o
  refine fr.upd (fs.newObj g o).1 o (le_newVec fr ha hs hk io hS) (fun r hr => ⟨rfl, by simp [Cx.newVec, hr]⟩) (fun r => Iff.rfl) (obj_new fs g o) ?_ ?_ ?_ ?_ (new_unres fr g o) (fun b hb _ => ⟨hk b hb, fun i => ⟨fun h => h.resolve_right fun h => by have := (hS b i h).1; omega, .inl⟩⟩)
    (fun b i h => h.elim (fun h => Nat.lt_of_lt_of_le (fr.slt b i h) hs) fun h => (hS b i h).2) (fun b' hb' => ?_) hor (fun _ _ => hgl)
  · cases g <;> simp [FS.newObj]
  · cases g <;> simp [FS.newObj, St.push]
  · cases g <;> rfl
  · cases g <;> simp [FS.newObj, Ref.fits, St.push]
  · have : q0.blk = some b' := by simpa [Cx.own, Cx.newVec, hb0] using hb'
    obtain ⟨h1, h2⟩ := hq b' this
    exact ⟨Nat.le_trans fr.size h1, h2, fun hx => by have := fr.xlt _ hx; omega, .inr h1⟩
end
end Go.AE
