/-
AE, part Za: regions whose order is drawn: the frame of the induction.
AE, part Zb: masked states: what an operation may look at, alone.
AE, part Zc: what an operation leaves as it was.
AE, part Zd: what a call leaves as it was.
AE, part Ze: what is seen alike is alike.
AE, part Zf: which operations stand ahead of each.
AE, part Zg: the run of a drawn region in the text's order, as a trace.
AE, part Zh: drawn regions: what is checked of a region's text, and what follows.
AE, part Zp: what is masked is not looked at: quiet operations.
AE, part Zq: what is masked is not looked at: the other operations.
AE, part Zi: drawn regions: what hoisted operations lay, what the steps of the trace leave as it was.
AE, part Zj: drawn regions: the steps of the trace.
AE, part Zk: drawn regions: the trace's own laws.
AE, part Zl: drawn regions: the trace is there.
AE, part Zm: drawn regions are sound.
AE, part Zn: drawn regions are sound: one step, and all of them.
AE, part Zo: the evaluator is right, drawn regions and all.
-/
import Derived.Test.YtmnkgecogbhbnaaDoorAe4
import Derived.Orders
namespace Go.AE
open Go

/-- How many are not listed yet. -/
def left (listed : Array Bool) : Nat := listed.toList.countP fun b => !b

theorem left_set {listed : Array Bool} {i : Nat} (h : listed[i]? = some false) : left (listed.setIfInBounds i true) + 1 = left listed := by
  unfold left
  rw [Array.toList_setIfInBounds]
  rw [← Array.getElem?_toList] at h
  generalize listed.toList = l at h
  induction l generalizing i with
  | nil => simp at h
  | cons b r ih =>
    cases i with
    | zero =>
      simp only [List.getElem?_cons_zero, Option.some.injEq] at h
      subst h
      simp [List.set_cons_zero]
    | succ i =>
      have := ih (i := i) (by simpa using h)
      simp only [List.set_cons_succ, List.countP_cons]
      omega

theorem mem_ready {md : Region.Mode} {ops : Array Oper} {listed : Array Bool} {i : Nat} (h : i ∈ Region.ready md ops listed) :
    ∃ o, ops[i]? = some o ∧ listed[i]? = some false ∧ ∀ e ∈ o.after, Region.binds md e = true → listed[e.on]? = some true := by
  unfold Region.ready at h
  simp only [List.mem_filter, List.mem_range, Bool.and_eq_true, Bool.not_eq_true'] at h
  obtain ⟨hi, h1, h2⟩ := h
  have ho : ops[i]? = some ops[i] := by simp [hi]
  refine ⟨ops[i], ho, ?_, fun e he hb => ?_⟩
  · simp only [Array.getD_eq_getD_getElem?] at h1
    cases hl : listed[i]? with
    | none => rw [hl] at h1; simp at h1
    | some b => rw [hl] at h1; simp at h1; rw [h1]
  · rw [ho] at h2
    simp only [Option.map_some, Option.getD_some, Array.all_eq_true'] at h2
    have := h2 e he
    simp only [hb, Bool.not_true, Bool.false_or, Array.getD_eq_getD_getElem?] at this
    cases hl : listed[e.on]? with
    | none => rw [hl] at this; simp at this
    | some b => rw [hl] at this; simp at this; rw [this]

/-- An invariant over what is listed. -/
theorem wpAny_inv {P : Program} {md : Region.Mode} {ops : Array Oper} {Q : Exit → Act → World → Prop} {I : Array Bool → Act → World → Prop}
    (step : ∀ listed a w i, I listed a w → i ∈ Region.ready md ops listed → wpOp P ops Q i (I (listed.setIfInBounds i true)) a w)
    (done : ∀ listed a w, I listed a w → Region.ready md ops listed = [] → Q .normal a w)
    : ∀ (fuel : Nat) (listed : Array Bool) (a : Act) (w : World), left listed ≤ fuel → I listed a w → wpAny P md ops Q fuel listed a w := by
  intro fuel
  induction fuel with
  | zero =>
    intro listed a w hl hI
    have hr : Region.ready md ops listed = [] := by
      cases h : Region.ready md ops listed with
      | nil => rfl
      | cons i r =>
        obtain ⟨_, _, h2, _⟩ := mem_ready (i := i) (by rw [h]; simp)
        have := left_set h2
        omega
    exact ⟨hr, done listed a w hI hr⟩
  | succ fuel ih =>
    intro listed a w hl hI
    refine ⟨done listed a w hI, fun i hi => ?_⟩
    obtain ⟨_, _, h2, _⟩ := mem_ready hi
    have := left_set h2
    exact wpOp_mono (fun a w h => ih _ a w (by omega) h) (step listed a w i hI hi)

end Go.AE

namespace Go.AE
open Go

theorem maskE_spec (ts : List Nat) (env : Tr) : (maskE ts env).dom env ∧ ∀ (i : Nat) (v : V), ((maskE ts env).get i) = some v → v = anyV ∨ (env.get i) = some v := by
  have main : ∀ (ts : List Nat) (e : Tr), e.dom env → (∀ (i : Nat) (v : V), e.get i = some v → v = anyV ∨ (env.get i) = some v) →
      (ts.foldl (fun e t => match (env.get t) with | some v => e.set t v | none => e) e).dom env ∧
      ∀ (i : Nat) (v : V), (ts.foldl (fun e t => match (env.get t) with | some v => e.set t v | none => e) e).get i = some v → v = anyV ∨ (env.get i) = some v := by
    intro ts
    induction ts with
    | nil => exact fun e h1 h2 => ⟨h1, h2⟩
    | cons t r ih =>
      intro e h1 h2
      simp only [List.foldl_cons]
      apply ih
      · split
        · exact (Tr.dom_set _ _ _).trans h1
        · exact h1
      · intro i v hv
        split at hv
        · rename_i u hu
          rw [Tr.get_set] at hv
          split at hv
          · rename_i hti
            subst hti
            cases hg : e.get t with
            | none => rw [hg] at hv; cases hv
            | some u0 =>
              rw [hg] at hv
              simp only [Option.map_some, Option.some.injEq] at hv; subst hv; exact .inr hu
          · exact h2 i v hv
        · exact h2 i v hv
  refine main ts _ (fun i => by rw [Tr.get_map]; cases env.get i <;> rfl) fun i v hv => .inl ?_
  rw [Tr.get_map] at hv
  cases hg : env.get i with
  | none => rw [hg] at hv; cases hv
  | some u => rw [hg] at hv; simpa using hv.symm

theorem maskE_congr {ts : List Nat} {e e' : Tr} (hl : e.dom e') (h : ∀ t ∈ ts, e.get t = e'.get t) : maskE ts e = maskE ts e' := by
  unfold maskE
  have hb : (e.map fun _ => anyV) = e'.map fun _ => anyV := Tr.ext fun i => by
    rw [Tr.get_map, Tr.get_map]
    have := hl i
    cases h1 : e.get i with
    | none => rw [h1] at this; cases h2 : e'.get i with
      | none => rfl
      | some u => rw [h2] at this; cases this
    | some u => rw [h1] at this; cases h2 : e'.get i with
      | none => rw [h2] at this; cases this
      | some u' => rfl
  rw [hb]
  generalize (e'.map fun _ => anyV) = b
  clear hb
  induction ts generalizing b with
  | nil => rfl
  | cons t r ih =>
    simp only [List.foldl_cons, h t (by simp)]
    exact ih (fun t ht => h t (List.mem_cons_of_mem _ ht)) _

theorem filterMap_same {α β : Type} {f g : α → Option β} {l : List α} (h : ∀ x ∈ l, f x = g x) : l.filterMap f = l.filterMap g := by
  induction l with
  | nil => rfl
  | cons x r ih => simp only [List.filterMap_cons, h x (by simp), ih fun y hy => h y (List.mem_cons_of_mem _ hy)]

theorem maskQ_congr {ts : List Nat} {rs : List Ref} {fs fs' : FS} (hl : fs.env.dom fs'.env) (he : ∀ t ∈ ts, (fs.env.get t) = (fs'.env.get t)) (ho : ∀ r ∈ rs, fs.obj r = fs'.obj r) : maskQ ts rs fs = maskQ ts rs fs' := by
  unfold maskQ
  congr 1
  · exact maskE_congr hl he
  · apply filterMap_same
    intro r hr
    cases r with
    | loc id => have := ho _ hr; simp only [FS.obj] at this; simp only [this]
    | glob n => rfl
  · congr 1
    funext n
    split
    · rename_i h
      rw [List.any_eq_true] at h
      obtain ⟨r, hr, hb⟩ := h
      cases r with
      | loc id => simp [Ref.beq] at hb
      | glob m =>
        have : n = m := by simpa [Ref.beq] using hb
        subst this
        exact ho _ hr
    · rfl

theorem lkp_mask {rs : List Ref} {fs : FS} {id : Nat} {o : Obj} (h : lkp (rs.filterMap fun r => match r with
    | .loc id => (lkp fs.locs id).map fun o => (id, o)
    | .glob _ => none) id = some o) : lkp fs.locs id = some o := by
  have hm := mem_of_lkp h
  rw [List.mem_filterMap] at hm
  obtain ⟨r, _, hr⟩ := hm
  cases r with
  | loc j =>
    simp only [Option.map_eq_some_iff, Prod.mk.injEq] at hr
    obtain ⟨o', h1, rfl, rfl⟩ := hr
    exact h1
  | glob n => cases hr

section
variable {k : K} {X : XR} {w w' : World} {cx cx' : Cx} {fs fs' : FS} {a : Act}

theorem FR.mask (fr : FR k X w cx fs a) (ts : List Nat) (rs : List Ref) (h1 : fs.nid ≤ bigN) (h2 : fs.st.next ≤ bigN) : FR k X w cx (maskQ ts rs fs) a := by
  have hobj : ∀ r o, (maskQ ts rs fs).obj r = some o → fs.obj r = some o := by
    intro r o h
    cases r with
    | loc id => exact lkp_mask h
    | glob n =>
      simp only [maskQ, FS.obj] at h
      split at h
      · exact h
      · cases h
  refine ⟨fr.size, fr.pre, fr.preS, fr.slt, fun r o ho hal => fr.obj r o (hobj r o ho) hal, fr.non, fr.own1, fr.own2, fr.xlt, fun id h => Nat.lt_of_lt_of_le (fr.alL id h) h1, fun n h => Nat.lt_of_lt_of_le (fr.alG n h) h2,
    fun id o h => Nat.lt_of_lt_of_le (fr.obL id o (hobj _ o h)) h1, fun n o h => Nat.lt_of_lt_of_le (fr.obG n o (hobj _ o h)) h2, fun i v hv => ?_, fun i v c hv hc => ?_, fr.defers, fun n o h => fr.gl n o (hobj _ o h), fun r h => ⟨(fr.res r h).1, by cases r <;> exact Nat.lt_of_lt_of_le (fr.res _ h).2 (by assumption)⟩⟩
  · exact (maskE_spec ts fs.env).1.len fr.len i v hv
  · rcases (maskE_spec ts fs.env).2 i v hv with rfl | hv
    · exact .p _ _ (.any _)
    · exact fr.env i v c hv hc

theorem FR.maskEnv (fr : FR k X w cx fs a) (ts : List Nat) : FR k X w cx { fs with env := maskE ts fs.env } a := by
  refine ⟨fr.size, fr.pre, fr.preS, fr.slt, fun r o ho hal => fr.obj r o (by cases r <;> exact ho) hal, fr.non, fr.own1, fr.own2, fr.xlt, fr.alL, fr.alG, fun id o h => fr.obL id o h, fun n o h => fr.obG n o h, fun i v hv => ?_, fun i v c hv hc => ?_, fr.defers, fun n o h => fr.gl n o h, fun r h => ⟨(fr.res r h).1, by cases r <;> exact (fr.res _ h).2⟩⟩
  · exact (maskE_spec ts fs.env).1.len fr.len i v hv
  · rcases (maskE_spec ts fs.env).2 i v hv with rfl | hv
    · exact .p _ _ (.any _)
    · exact fr.env i v c hv hc

/-- Another environment, of which as much is known. -/
theorem FR.reenv (fr : FR k X w cx fs a) {env : Tr} (hl : env.dom fs.env) (h : ∀ (i : Nat) (v : V) (c : Value), (env.get i) = some v → a.tmps[i]? = some c → VR k.sg w cx v c) : FR k X w cx { fs with env } a :=
  ⟨fr.size, fr.pre, fr.preS, fr.slt, fun r o ho hal => fr.obj r o (by cases r <;> exact ho) hal, fr.non, fr.own1, fr.own2, fr.xlt, fr.alL, fr.alG, fun id o h => fr.obL id o h, fun n o h => fr.obG n o h, hl.len fr.len, h, fr.defers, fun n o h => fr.gl n o h, fun r h => ⟨(fr.res r h).1, by cases r <;> exact (fr.res _ h).2⟩⟩
end
end Go.AE

namespace Go.AE
open Go

theorem new_other {fs : FS} {g : Bool} {o : Obj} {r : Ref} (h : r.old fs) : (fs.newObj g o).2.obj r = fs.obj r := by
  rw [obj_new, if_neg]
  intro e
  subst e
  cases g <;> simp [FS.newObj, Ref.old] at h

theorem new_older {fs : FS} {g : Bool} {o : Obj} {r : Ref} (h : r.old fs) : r.old (fs.newObj g o).2 := by
  cases g <;> cases r <;> simp [FS.newObj, Ref.old, St.push] at h ⊢ <;> omega

theorem growL_other {g : Bool} : ∀ {offs : List Nat} {cs cs' : List V} {fs fs' : FS}, growL g offs cs fs = some (cs', fs') → ∀ {r : Ref}, r.old fs → fs'.obj r = fs.obj r ∧ r.old fs' := by
  intro offs
  induction offs with
  | nil =>
    intro cs cs' fs fs' h r hr
    simp only [growL, Option.some.injEq, Prod.mk.injEq] at h
    obtain ⟨rfl, rfl⟩ := h
    exact ⟨rfl, hr⟩
  | cons off rest ih =>
    intro cs cs' fs fs' h r hr
    simp only [growL] at h
    split at h
    · obtain ⟨h1, h2⟩ := ih h (r := r) (new_older hr)
      exact ⟨by rw [h1, new_other hr], h2⟩
    · cases h

theorem set_other {fs : FS} {r0 r : Ref} {o : Obj} (h : (fs.obj r0).isSome) (hr : r ≠ r0) : (fs.setObj r0 o).obj r = fs.obj r := by
  rw [obj_set fs r0 o h, if_neg hr]

theorem storeV_other {fs fs' : FS} {ti : TI} {p v : V} (h : storeV fs ti p v = some fs') {r : Ref} (hr : r ∉ refs1 p) : fs'.obj r = fs.obj r := by
  unfold storeV at h
  split at h
  · rename_i r0 off
    have hne : r ≠ r0 := fun e => hr (by simp [refs1, e])
    split at h
    · rename_i cs ho
      split at h
      · split at h
        · simp only [Option.some.injEq] at h; subst h; exact set_other (by rw [ho]; rfl) hne
        · cases h
      · cases h
    · cases h
  · rename_i r0 n i off
    have hne : r ≠ r0 := fun e => hr (by simp [refs1, e])
    split at h
    · rename_i ho _
      split at h
      · split at h
        · split at h
          · simp only [Option.some.injEq] at h; subst h; exact set_other (by rw [ho]; rfl) hne
          · cases h
        · cases h
      · cases h
    · cases h
  · cases h

theorem mapSet_other {E : En} {fs fs' : FS} {t : Nat} {m key v : V} (h : mapSet E fs t m key v = some fs') {r : Ref} (hr : r ∉ refs1 m) : fs'.obj r = fs.obj r := by
  unfold mapSet at h
  split at h
  · rename_i ti r0 kp hti
    have hne : r ≠ r0 := fun e => hr (by simp [refs1, e])
    split at h
    · split at h
      · rename_i ho _
        split at h
        · simp only [Option.map_eq_some_iff] at h
          obtain ⟨es, _, rfl⟩ := h
          exact set_other (by rw [ho]; rfl) hne
        · cases h
      · cases h
    · cases h
  · cases h

theorem appendV_other {E : En} {fs fs' : FS} {g hole : Bool} {t : Nat} {x y v : V} (h : appendV E fs g hole t x y = some (v, fs')) {r : Ref} (hold : r.old fs) (hr : r ∉ refs1 x) : fs'.obj r = fs.obj r := by
  unfold appendV at h
  split at h
  · split at h
    · split at h
      · cases h
      · split at h
        · rename_i r0 n
          have hne : r ≠ r0 := fun e => hr (by simp [refs1, e])
          split at h
          · rename_i ho
            split at h
            · simp only [Option.some.injEq, Prod.mk.injEq] at h
              obtain ⟨_, rfl⟩ := h
              split
              · rfl
              · exact set_other (by rw [ho]; rfl) hne
            · cases h
          · cases h
        · split at h
          · simp only [Option.some.injEq, Prod.mk.injEq] at h; obtain ⟨_, rfl⟩ := h; rfl
          · simp only [Option.some.injEq, Prod.mk.injEq] at h; obtain ⟨_, rfl⟩ := h; rfl
          · simp only [Option.some.injEq, Prod.mk.injEq] at h; obtain ⟨_, rfl⟩ := h; rfl
          · split at h
            · simp only [Option.some.injEq, Prod.mk.injEq] at h; obtain ⟨_, rfl⟩ := h; exact new_other hold
            · cases h
          · split at h
            · simp only [Option.some.injEq, Prod.mk.injEq] at h; obtain ⟨_, rfl⟩ := h; exact new_other hold
            · cases h
          · cases h
        · cases h
    · cases h
  · cases h

theorem refs_eval {E : En} {env : Tr} {x : Operand} {v : V} (h : evalO E env x = some v) {r : Ref} (hr : r ∉ refsO env x) : r ∉ refs1 v := by
  unfold evalO at h
  unfold refsO at hr
  split at h
  · simp only [h] at hr; exact hr
  · simp only [Option.map_eq_some_iff] at h
    obtain ⟨p, _, rfl⟩ := h
    simp [refs1]
  · simp only [Option.map_eq_some_iff] at h
    obtain ⟨p, _, rfl⟩ := h
    simp [refs1]
  · simp only [Option.some.injEq] at h; subst h; simp [refs1]

theorem eV_other {E : En} {C : CallF} {A : Ann} {fs fs' : FS} {rid i : Nat} {o : Op} (hn : noCall o = true) (hz : hasA A.frz rid i = false) {v : V} (h : eV E C fs A rid i o = some (v, fs')) {r : Ref} (hold : r.old fs) (hr : r ∉ wrO fs.env o) : fs'.obj r = fs.obj r := by
  unfold eV at h
  split at h
  · split at h
    · simp only [Option.map_eq_some_iff] at h
      obtain ⟨⟨cs, fs1⟩, hg, h2⟩ := h
      simp only [Prod.mk.injEq] at h2
      obtain ⟨_, rfl⟩ := h2
      obtain ⟨g1, g2⟩ := growL_other hg hold
      rw [new_other g2, g1]
    · cases h
  · split at h
    · split at h
      · split at h
        · split at h
          · simp only [Option.some.injEq, Prod.mk.injEq] at h; obtain ⟨_, rfl⟩ := h; rfl
          · split at h
            · simp only [Option.some.injEq, Prod.mk.injEq] at h; obtain ⟨_, rfl⟩ := h; exact new_other hold
            · cases h
        · split at h
          · rename_i cs fs1 hg
            obtain ⟨g1, g2⟩ := growL_other hg hold
            split at h
            · simp only [Option.some.injEq, Prod.mk.injEq] at h; obtain ⟨_, rfl⟩ := h; rw [new_other g2, g1]
            · cases h
          · cases h
      · cases h
    · cases h
  · rename_i t oa x
    split at h
    · rename_i ti p vx hT hp hx
      split at h
      · cases h
      · rename_i fs1 hst
        rw [hz] at h
        simp only [Bool.false_eq_true, if_false, Option.some.injEq, Prod.mk.injEq] at h
        obtain ⟨_, rfl⟩ := h
        exact storeV_other hst (refs_eval hp hr)
    · cases h
  · split at h
    · split at h
      · split at h
        · split at h
          · split at h
            · simp only [Option.some.injEq, Prod.mk.injEq] at h; obtain ⟨_, rfl⟩ := h; exact new_other hold
            · split at h
              · split at h
                · simp only [Option.some.injEq, Prod.mk.injEq] at h; obtain ⟨_, rfl⟩ := h; exact new_other hold
                · cases h
              · cases h
          · cases h
        · cases h
      · cases h
    · cases h
  · simp only [Option.some.injEq, Prod.mk.injEq] at h; obtain ⟨_, rfl⟩ := h; exact new_other hold
  · split at h
    · rename_i hm hk hv
      simp only [Option.map_eq_some_iff] at h
      obtain ⟨fs1, hs, h2⟩ := h
      simp only [Prod.mk.injEq] at h2
      obtain ⟨_, rfl⟩ := h2
      exact mapSet_other hs (refs_eval hm hr)
    · cases h
  · split at h
    · rename_i hm hk hv
      simp only [Option.map_eq_some_iff] at h
      obtain ⟨fs1, hs, h2⟩ := h
      simp only [Prod.mk.injEq] at h2
      obtain ⟨_, rfl⟩ := h2
      exact mapSet_other hs (refs_eval hm hr)
    · cases h
  · rename_i c
    obtain ⟨callee, args, argTypes⟩ := c
    simp only at h hn
    split at h
    · split at h
      · rename_i x y t tx hargs htys
        simp only [wrO, hargs] at hr
        split at h
        · rename_i vx vy hx hy
          split at h
          · exact appendV_other h hold (refs_eval hx hr)
          · cases h
        · cases h
      · cases h
    · split at h
      · rename_i m kk t r' hargs htys
        simp only [wrO, hargs] at hr
        split at h
        · rename_i r0 kp ti hm hk hti
          split at h
          · rename_i tk te es hu ho
            split at h
            · split at h
              · simp only [Option.map_eq_some_iff] at h
                obtain ⟨es', hs, h2⟩ := h
                simp only [Prod.mk.injEq] at h2
                obtain ⟨_, rfl⟩ := h2
                refine set_other (by rw [ho]; rfl) fun e => ?_
                have := refs_eval hm hr
                simp [refs1, e] at this
              · cases h
            · cases h
          · cases h
        · cases h
      · cases h
    · simp [noCall] at hn
    · cases h
  · cases h
end Go.AE

namespace Go.AE
open Go

theorem frzR_other {fs : FS} {r0 r : Ref} (h : r ≠ r0) : (frzR fs r0).obj r = fs.obj r := by
  unfold frzR
  split
  · rename_i ho
    split
    · rfl
    · exact set_other (by rw [ho]; rfl) h
  · rfl

theorem frz1_other {fs : FS} {v : V} {r : Ref} (h : r ∉ refs1 v) : (frz1 fs v).obj r = fs.obj r := by
  cases v <;> first | rfl | exact frzR_other (fun e => h (by simp [refs1, e]))

theorem fold_other {α : Type} {g : FS → α → FS} {r : Ref} {l : List α} (h : ∀ x ∈ l, ∀ fs, (g fs x).obj r = fs.obj r) : ∀ fs, (l.foldl g fs).obj r = fs.obj r := by
  induction l with
  | nil => intro fs; rfl
  | cons x t ih => intro fs; rw [List.foldl_cons, ih (fun y hy => h y (List.mem_cons_of_mem _ hy)), h x (by simp)]

theorem frzA_other {fs : FS} {v : V} {r : Ref} (h : r ∉ refsV v) : (frzA fs v).obj r = fs.obj r := by
  unfold frzA
  split
  · rename_i cs
    simp only [refsV, List.mem_flatMap, not_exists, not_and] at h
    exact fold_other (fun x hx fs => frz1_other (h x hx)) fs
  · rename_i hne
    refine frz1_other fun hr => h ?_
    cases v with
    | agg cs => exact (hne cs rfl).elim
    | func f a b => simp [refs1] at hr
    | tuple vs => simp [refs1] at hr
    | _ => exact hr

theorem fold_nid {α : Type} {g : FS → α → FS} (h : ∀ fs x, (g fs x).nid = fs.nid ∧ (g fs x).st.next = fs.st.next) : ∀ (l : List α) (fs : FS), (l.foldl g fs).nid = fs.nid ∧ (l.foldl g fs).st.next = fs.st.next := by
  intro l
  induction l with
  | nil => intro fs; exact ⟨rfl, rfl⟩
  | cons x t ih => intro fs; rw [List.foldl_cons]; exact ⟨(ih _).1.trans (h fs x).1, (ih _).2.trans (h fs x).2⟩

theorem evals_refs {E : En} {env : Tr} {o : Op} {xs : List Operand} (hx : ∀ x ∈ xs, x ∈ o.operands.toList) {vs : List V} (h : mapO (evalO E env) xs = some vs) {r : Ref} (hr : r ∉ readsOf env o) : ∀ v ∈ vs, r ∉ refsV v := by
  obtain ⟨h1, h2⟩ := mapO_spec h
  intro v hv hrv
  obtain ⟨i, hi⟩ := List.mem_iff_getElem?.1 hv
  have hix : i < xs.length := by rw [← h1]; exact (List.getElem?_eq_some_iff.1 hi).1
  have hxi : xs[i]? = some xs[i] := by simp [hix]
  have he := h2 i _ v hxi hi
  have hmem : xs[i] ∈ o.operands.toList := hx _ (List.mem_of_getElem? hxi)
  generalize xs[i] = x at he hmem
  unfold evalO at he
  split at he
  · rename_i t
    refine hr ?_
    unfold readsOf
    rw [List.mem_flatMap]
    exact ⟨.tmp t, hmem, by simp only [he]; exact hrv⟩
  · simp only [Option.map_eq_some_iff] at he
    obtain ⟨p, _, rfl⟩ := he
    simp [refsV, refs1] at hrv
  · simp only [Option.map_eq_some_iff] at he
    obtain ⟨p, _, rfl⟩ := he
    simp [refsV, refs1] at hrv
  · simp only [Option.some.injEq] at he; subst he; simp [refsV, refs1] at hrv
end Go.AE

namespace Go.AE
open Go

mutual
theorem PV.beq_eq : ∀ (a b : PV), PV.beq a b = true → a = b
  | .any, b, h => by cases b <;> simp [PV.beq] at h ⊢
  | .nilp, b, h => by cases b <;> simp [PV.beq] at h ⊢
  | .nilmap, b, h => by cases b <;> simp [PV.beq] at h ⊢
  | .nilfn, b, h => by cases b <;> simp [PV.beq] at h ⊢
  | .nilif, b, h => by cases b <;> simp [PV.beq] at h ⊢
  | .bool x, b, h => by cases b <;> simp [PV.beq] at h ⊢; exact h
  | .int k x, b, h => by cases b <;> simp [PV.beq] at h ⊢; exact h
  | .str x, b, h => by cases b <;> simp [PV.beq] at h ⊢; exact h
  | .pref x o, b, h => by
    cases b with
    | pref y p => simp only [PV.beq, Bool.and_eq_true, beq_iff_eq] at h; rw [PV.beqL_eq x y h.1, h.2]
    | _ => simp [PV.beq] at h
  | .sptr x, b, h => by cases b <;> simp [PV.beq] at h ⊢; exact h
  | .list k x, b, h => by
    cases b with
    | list j y => cases k <;> cases j <;> simp only [PV.beq, Bool.false_eq_true] at h <;> rw [PV.beqL_eq x y h]
    | _ => cases k <;> simp [PV.beq] at h
  | .agg x, b, h => by
    cases b with
    | agg y => simp only [PV.beq] at h; rw [PV.beqL_eq x y h]
    | _ => simp [PV.beq] at h
  | .func f x y, b, h => by
    cases b with
    | func g u v => simp only [PV.beq, Bool.and_eq_true, decide_eq_true_eq] at h; rw [PV.beqL_eq x u h.1.2, PV.beqL_eq y v h.2, h.1.1]
    | _ => simp [PV.beq] at h
  | .iface s x, b, h => by
    cases b with
    | iface t y => simp only [PV.beq, Bool.and_eq_true, beq_iff_eq] at h; rw [PV.beq_eq x y h.2, h.1]
    | _ => simp [PV.beq] at h
  | .tuple x, b, h => by
    cases b with
    | tuple y => simp only [PV.beq] at h; rw [PV.beqL_eq x y h]
    | _ => simp [PV.beq] at h
theorem PV.beqL_eq : ∀ (a b : List PV), PV.beqL a b = true → a = b
  | [], b, h => by cases b <;> simp [PV.beqL] at h ⊢
  | x :: r, b, h => by
    cases b with
    | nil => simp [PV.beqL] at h
    | cons y s => simp only [PV.beqL, Bool.and_eq_true] at h; rw [PV.beq_eq x y h.1, PV.beqL_eq r s h.2]
end

theorem Ref.beq_eq {a b : Ref} (h : Ref.beq a b = true) : a = b := by
  cases a <;> cases b <;> simp [Ref.beq] at h ⊢ <;> exact h

mutual
theorem V.beq_eq : ∀ (a b : V), V.beq a b = true → a = b
  | .p x, b, h => by
    cases b with
    | p y => simp only [V.beq] at h; rw [PV.beq_eq x y h]
    | _ => simp [V.beq] at h
  | .ptr x i, b, h => by
    cases b with
    | ptr y j => simp only [V.beq, Bool.and_eq_true, beq_iff_eq] at h; rw [Ref.beq_eq h.1, h.2]
    | _ => simp [V.beq] at h
  | .vptr x i j m, b, h => by
    cases b with
    | vptr y l n o => simp only [V.beq, Bool.and_eq_true, beq_iff_eq] at h; rw [Ref.beq_eq h.1.1.1, h.1.1.2, h.1.2, h.2]
    | _ => simp [V.beq] at h
  | .vec x i, b, h => by
    cases b with
    | vec y j => simp only [V.beq, Bool.and_eq_true, beq_iff_eq] at h; rw [Ref.beq_eq h.1, h.2]
    | _ => simp [V.beq] at h
  | .map x, b, h => by
    cases b with
    | map y => simp only [V.beq] at h; rw [Ref.beq_eq h]
    | _ => simp [V.beq] at h
  | .agg x, b, h => by
    cases b with
    | agg y => simp only [V.beq] at h; rw [V.beqL_eq x y h]
    | _ => simp [V.beq] at h
  | .func f x y, b, h => by
    cases b with
    | func g u v => simp only [V.beq, Bool.and_eq_true, decide_eq_true_eq] at h; rw [V.beqL_eq x u h.1.2, V.beqL_eq y v h.2, h.1.1]
    | _ => simp [V.beq] at h
  | .tuple x, b, h => by
    cases b with
    | tuple y => simp only [V.beq] at h; rw [V.beqL_eq x y h]
    | _ => simp [V.beq] at h
theorem V.beqL_eq : ∀ (a b : List V), V.beqL a b = true → a = b
  | [], b, h => by cases b <;> simp [V.beqL] at h ⊢
  | x :: r, b, h => by
    cases b with
    | nil => simp [V.beqL] at h
    | cons y s => simp only [V.beqL, Bool.and_eq_true] at h; rw [V.beq_eq x y h.1, V.beqL_eq r s h.2]
end

theorem beqM_eq : ∀ (a b : List (PV × V)), beqM a b = true → a = b
  | [], b, h => by cases b <;> simp [beqM] at h ⊢
  | (k, x) :: r, b, h => by
    cases b with
    | nil => simp [beqM] at h
    | cons y s =>
      obtain ⟨j, y⟩ := y
      simp only [beqM, Bool.and_eq_true] at h
      rw [PV.beq_eq k j h.1.1, V.beq_eq x y h.1.2, beqM_eq r s h.2]

theorem Obj.beq_eq {a b : Obj} (h : Obj.beq a b = true) : a = b := by
  cases a <;> cases b <;> simp only [Obj.beq, Bool.false_eq_true, Bool.and_eq_true, beq_iff_eq] at h
  · rw [V.beqL_eq _ _ h]
  · rw [h.1.1, PV.beqL_eq _ _ h.1.2, h.2]
  · rw [beqM_eq _ _ h]

theorem oBeq_eq {a b : Option Obj} (h : oBeq a b = true) : a = b := by
  cases a <;> cases b <;> simp only [oBeq, Bool.false_eq_true] at h
  · rfl
  · rw [Obj.beq_eq h]
end Go.AE

namespace Go.AE
open Go

def befStep (acc : List Nat) (o : Oper) : Nat := o.after.toList.foldl (fun s e => if Region.binds .any e then s ||| 2 ^ e.on ||| acc.getD e.on 0 else s) 0

theorem befs_eq (ops : List Oper) : befs ops = ops.foldl (fun acc o => acc ++ [befStep acc o]) [] := rfl

theorem bef_fold (ops : List Oper) : ∀ (acc : List Nat), ∃ tail, ops.foldl (fun acc o => acc ++ [befStep acc o]) acc = acc ++ tail ∧ tail.length = ops.length ∧
    ∀ (i : Nat) (o : Oper), ops[i]? = some o → tail[i]? = some (befStep (acc ++ tail.take i) o) := by
  induction ops with
  | nil => intro acc; exact ⟨[], by simp, rfl, by simp⟩
  | cons o r ih =>
    intro acc
    obtain ⟨tail, h1, h2, h3⟩ := ih (acc ++ [befStep acc o])
    refine ⟨befStep acc o :: tail, by simp [h1], by simp [h2], fun i p hp => ?_⟩
    cases i with
    | zero => simp at hp; subst hp; simp
    | succ i =>
      have := h3 i p (by simpa using hp)
      simpa using this

theorem befs_at {ops : List Oper} {i : Nat} {o : Oper} (h : ops[i]? = some o) : (befs ops)[i]? = some (befStep ((befs ops).take i) o) := by
  obtain ⟨tail, h1, h2, h3⟩ := bef_fold ops []
  have : befs ops = tail := by rw [befs_eq, h1]; simp
  rw [this]
  simpa using h3 i o h

theorem befs_length (ops : List Oper) : (befs ops).length = ops.length := by
  obtain ⟨tail, h1, h2, h3⟩ := bef_fold ops []
  rw [befs_eq, h1]; simpa using h2

theorem befStep_bit {acc : List Nat} {j : Nat} : ∀ {l : List Edge} {s : Nat}, (l.foldl (fun s e => if Region.binds .any e then s ||| 2 ^ e.on ||| acc.getD e.on 0 else s) s).testBit j = true →
    s.testBit j = true ∨ ∃ e ∈ l, Region.binds .any e = true ∧ (j = e.on ∨ (acc.getD e.on 0).testBit j = true) := by
  intro l
  induction l with
  | nil => intro s h; exact .inl h
  | cons e r ih =>
    intro s h
    simp only [List.foldl_cons] at h
    rcases ih h with h | ⟨e', he, hb, hj⟩
    · split at h
      · rename_i hb
        simp only [Nat.testBit_or, Bool.or_eq_true, Nat.testBit_two_pow, decide_eq_true_eq] at h
        rcases h with (h | h) | h
        · exact .inl h
        · exact .inr ⟨e, by simp, hb, .inl h.symm⟩
        · exact .inr ⟨e, by simp, hb, .inr h⟩
      · exact .inl h
    · exact .inr ⟨e', List.mem_cons_of_mem _ he, hb, hj⟩

/-- Closed under what stands ahead. -/
def Closed (ops : Array Oper) (listed : Array Bool) : Prop := ∀ (i : Nat) (o : Oper), listed[i]? = some true → ops[i]? = some o → ∀ e ∈ o.after, Region.binds .any e = true → listed[e.on]? = some true

theorem befs_listed {ops : Array Oper} {listed : Array Bool} (hc : Closed ops listed) : ∀ (i : Nat) {o : Oper} {j : Nat}, ops[i]? = some o → ((befs ops.toList).getD i 0).testBit j = true →
    (∀ e ∈ o.after, Region.binds .any e = true → listed[e.on]? = some true) → listed[j]? = some true := by
  intro i
  induction i using Nat.strongRecOn with
  | _ i ih =>
    intro o j ho hb hall
    have hi := befs_at (ops := ops.toList) (i := i) (o := o) (by rw [Array.getElem?_toList]; exact ho)
    rw [List.getD_eq_getElem?_getD, hi, Option.getD_some] at hb
    unfold befStep at hb
    rcases befStep_bit hb with h | ⟨e, he, hbi, hj⟩
    · simp at h
    · have hl := hall e (by simpa using he) hbi
      rcases hj with rfl | hj
      · exact hl
      · rw [List.getD_eq_getElem?_getD, List.getElem?_take] at hj
        split at hj
        · rename_i hlt
          cases hoe : ops[e.on]? with
          | none =>
            have hlen : (befs ops.toList)[e.on]? = none := by
              rw [List.getElem?_eq_none_iff, befs_length]
              have : ops.toList[e.on]? = none := by rw [Array.getElem?_toList]; exact hoe
              exact List.getElem?_eq_none_iff.1 this
            rw [hlen] at hj
            simp at hj
          | some p =>
            refine ih e.on hlt hoe (by rw [List.getD_eq_getElem?_getD]; exact hj) (hc e.on p hl hoe)
        · simp at hj
end Go.AE

namespace Go.AE
open Go

/-- One place of the trace. -/
def AtD (E : En) (C : CallF) (A : Ann) (rid : Nat) (ops : List Oper) (i : Nat) (o : Oper) (fs fs' : FS) (q : Option Rec) : Prop :=
  if hoisted o then fs' = fs ∧ q = none else fs.nid ≤ bigN ∧ fs.st.next ≤ bigN ∧ stepD E C A rid ops i o fs = some (fs', q)

theorem runD_trace {E : En} {C : CallF} {A : Ann} {rid : Nat} {ops : List Oper} : ∀ (rest : List Oper) (i : Nat) (fs fsE : FS) (l L : List Rec), runD E C A rid ops i rest fs l = some (fsE, L) →
    ∃ (T : Nat → FS) (R : Nat → Option Rec), T i = fs ∧ T (i + rest.length) = fsE ∧ (∀ q ∈ l, q ∈ L) ∧ ∀ (j : Nat) (o : Oper), rest[j]? = some o → AtD E C A rid ops (i + j) o (T (i + j)) (T (i + j + 1)) (R (i + j)) ∧ ∀ q, R (i + j) = some q → q ∈ L := by
  intro rest
  induction rest with
  | nil =>
    intro i fs fsE l L h
    simp only [runD, Option.some.injEq, Prod.mk.injEq] at h
    obtain ⟨rfl, rfl⟩ := h
    exact ⟨fun _ => fs, fun _ => none, rfl, rfl, fun _ h => h, fun j o h => by simp at h⟩
  | cons o r ih =>
    intro i fs fsE l L h
    have glue : ∀ (fs1 : FS) (q1 : Option Rec) (l1 : List Rec), AtD E C A rid ops i o fs fs1 q1 → (∀ q ∈ l, q ∈ l1) → (∀ q, q1 = some q → q ∈ l1) → runD E C A rid ops (i + 1) r fs1 l1 = some (fsE, L) →
        ∃ (T : Nat → FS) (R : Nat → Option Rec), T i = fs ∧ T (i + (o :: r).length) = fsE ∧ (∀ q ∈ l, q ∈ L) ∧ ∀ (j : Nat) (p : Oper), (o :: r)[j]? = some p → AtD E C A rid ops (i + j) p (T (i + j)) (T (i + j + 1)) (R (i + j)) ∧ ∀ q, R (i + j) = some q → q ∈ L := by
      intro fs1 q1 l1 hat hl hq hrun
      obtain ⟨T, R, t1, t2, t3, t4⟩ := ih (i + 1) fs1 fsE l1 L hrun
      refine ⟨fun n => if n = i then fs else T n, fun n => if n = i then q1 else R n, by simp, ?_, fun q h => t3 q (hl q h), fun j p hp => ?_⟩
      · have : ¬ (i + (o :: r).length = i) := by simp
        simp only [this, if_false]
        rw [← t2]; congr 1; simp; omega
      · cases j with
        | zero =>
          simp only [List.getElem?_cons_zero, Option.some.injEq] at hp
          subst hp
          have h1 : ¬ (i + 1 = i) := by omega
          simp only [Nat.add_zero, if_true, h1, if_false, t1]
          exact ⟨hat, fun q hq1 => t3 q (hq q hq1)⟩
        | succ j =>
          have := t4 j p (by simpa using hp)
          have e1 : i + 1 + j = i + (j + 1) := by omega
          rw [e1] at this
          have h1 : ¬ (i + (j + 1) = i) := by omega
          have h2 : ¬ (i + (j + 1) + 1 = i) := by omega
          simp only [h1, h2, if_false]
          exact this
    simp only [runD] at h
    split at h
    · rename_i hh
      exact glue fs none l (by simp [AtD, hh]) (fun _ h => h) (fun _ h => by cases h) h
    · rename_i hh
      split at h
      · rename_i hb
        split at h
        · rename_i fs1 q hs
          exact glue fs1 (some q) (q :: l) (by simp [AtD, hh, hb, hs]) (fun _ h => List.mem_cons_of_mem _ h) (fun q' e => by simp only [Option.some.injEq] at e; subst e; simp) h
        · rename_i fs1 hs
          exact glue fs1 none l (by simp [AtD, hh, hb, hs]) (fun _ h => h) (fun _ h => by cases h) h
        · cases h
      · cases h
end Go.AE

namespace Go.AE
open Go

theorem textOk_spec {ops : List Oper} (h : textOk ops = true) {i : Nat} {o : Oper} (hi : ops[i]? = some o) :
    (∀ e ∈ o.after, Region.binds .any e = true → e.on < i) ∧
    ∀ (j : Nat) (q : Oper) (d : Nat), ops[j]? = some q → q.dst = some d → (i = j ∨ o.dst ≠ some d) ∧ (d ∈ looksD ops o → (j < i ∧ ordered (befs ops) j i = true) ∨ (i < j ∧ ordered (befs ops) i j = true ∧ hoisted q = false)) := by
  unfold textOk at h
  simp only [List.all_eq_true] at h
  have hm : (o, i) ∈ ops.zipIdx := by
    rw [List.mem_zipIdx_iff_getElem?]; exact hi
  have h0 := h (o, i) hm
  simp only [Bool.and_eq_true, List.all_eq_true] at h0
  obtain ⟨h1, h2⟩ := h0
  refine ⟨fun e he hb => ?_, fun j q d hj hd => ?_⟩
  · have := h1 e (by simpa using he)
    simpa [hb] using this
  · have := h2 (q, j) (by rw [List.mem_zipIdx_iff_getElem?]; exact hj)
    simp only [hd, Bool.and_eq_true, Bool.or_eq_true, beq_iff_eq, bne_iff_ne, decide_eq_true_eq, Bool.not_eq_true'] at this
    refine ⟨this.1, fun hl => ?_⟩
    rcases this.2 with (h3 | h3) | h3
    · have hc : (looksD ops o).contains d = true := by simpa using hl
      rw [hc] at h3; cases h3
    · exact .inl h3
    · exact .inr ⟨h3.1.1, h3.1.2, h3.2⟩
end Go.AE

namespace Go.AE
open Go

theorem maskE_at {ts : List Nat} {env : Tr} {t : Nat} (ht : t ∈ ts) : (maskE ts env).get t = env.get t := by
  have main : ∀ (ts : List Nat) (e : Tr), e.dom env → (t ∈ ts ∨ e.get t = env.get t) → (ts.foldl (fun e t => match (env.get t) with | some v => e.set t v | none => e) e).get t = env.get t := by
    intro ts
    induction ts with
    | nil => intro e _ h; exact h.resolve_left (by simp)
    | cons s r ih =>
      intro e hl h
      simp only [List.foldl_cons]
      refine ih _ ?_ ?_
      · split
        · exact (Tr.dom_set _ _ _).trans hl
        · exact hl
      · by_cases hs : s = t
        · subst hs
          right
          have hd := hl s
          cases he : env.get s with
          | none =>
            simp only
            rw [he] at hd
            cases hg : e.get s with
            | none => rfl
            | some u => rw [hg] at hd; cases hd
          | some v =>
            simp only
            rw [he] at hd
            rw [Tr.get_set, if_pos rfl]
            cases hg : e.get s with
            | none => rw [hg] at hd; cases hd
            | some u => rfl
        · rcases h with h | h
          · left
            rcases List.mem_cons.1 h with h | h
            · exact (hs h.symm).elim
            · exact h
          · right
            rw [← h]
            split
            · rw [Tr.get_set_ne hs]
            · rfl
  refine main ts _ (fun i => by rw [Tr.get_map]; cases env.get i <;> rfl) (.inl ht)

theorem mask_obj {ts : List Nat} {rs : List Ref} {fs : FS} {r : Ref} (hr : r ∈ rs) : (maskQ ts rs fs).obj r = fs.obj r := by
  cases r with
  | loc id =>
    simp only [maskQ, FS.obj]
    induction rs with
    | nil => simp at hr
    | cons q t ih =>
      cases q with
      | glob n =>
        simp only [List.filterMap_cons]
        exact ih (by simpa using hr)
      | loc j =>
        simp only [List.filterMap_cons]
        by_cases hj : j = id
        · subst hj
          cases ho : lkp fs.locs j with
          | some o => simp [lkp]
          | none =>
            simp only [Option.map_none]
            clear ih hr
            induction t with
            | nil => rfl
            | cons q t ih =>
              cases q with
              | glob n => simpa using ih
              | loc i =>
                simp only [List.filterMap_cons]
                cases hi : lkp fs.locs i with
                | none => simpa using ih
                | some o =>
                  simp only [Option.map_some, lkp]
                  by_cases hij : i = j
                  · subst hij; rw [ho] at hi; cases hi
                  · rw [if_neg hij]; exact ih
        · have hmem : Ref.loc id ∈ t := by
            rcases List.mem_cons.1 hr with h | h
            · simp only [Ref.loc.injEq] at h; exact (hj h.symm).elim
            · exact h
          cases lkp fs.locs j with
          | none => simpa using ih hmem
          | some o =>
            simp only [Option.map_some, lkp]
            rw [if_neg hj]
            exact ih hmem
  | glob n =>
    simp only [maskQ, FS.obj]
    rw [if_pos]
    rw [List.any_eq_true]
    exact ⟨_, hr, by simp [Ref.beq]⟩

section
variable {E : En} {fs fs' : FS}

theorem expS_congr {v : V} (h : ∀ r ∈ refs1 v, fs.obj r = fs'.obj r) : expS fs v = expS fs' v := by
  cases v with
  | vec r n => simp only [expS, h r (by simp [refs1])]
  | ptr r o => cases r <;> rfl
  | map r => cases r <;> rfl
  | _ => rfl

theorem mapO_congr {α β : Type} {f g : α → Option β} : ∀ {l : List α}, (∀ x ∈ l, f x = g x) → mapO f l = mapO g l := by
  intro l
  induction l with
  | nil => intro _; rfl
  | cons x r ih =>
    intro h
    simp only [mapO, h x (by simp), ih fun y hy => h y (List.mem_cons_of_mem _ hy)]

theorem expA_congr {v : V} (h : ∀ r ∈ refsV v, fs.obj r = fs'.obj r) : expA fs v = expA fs' v := by
  cases v with
  | agg cs =>
    simp only [expA]
    rw [mapO_congr fun x hx => expS_congr fun r hr => h r (by simp only [refsV, List.mem_flatMap]; exact ⟨x, hx, hr⟩)]
  | func f a b => rfl
  | tuple vs => rfl
  | p x => rfl
  | ptr r o => exact expS_congr (v := .ptr r o) h
  | vptr r n i o => rfl
  | vec r n => exact expS_congr (v := .vec r n) h
  | map r => exact expS_congr (v := .map r) h

theorem pureA_congr {v : V} (h : ∀ r ∈ refsV v, fs.obj r = fs'.obj r) : pureA fs v = pureA fs' v := by
  unfold pureA; rw [expA_congr h]

theorem refs1_V {v : V} {r : Ref} (h : r ∈ refs1 v) : r ∈ refsV v := by
  cases v <;> first | exact h | simp [refs1] at h

theorem loadV_congr {ti : TI} {v : V} (h : ∀ r ∈ refsV v, fs.obj r = fs'.obj r) : loadV fs ti v = loadV fs' ti v := by
  cases v with
  | ptr r o => simp only [loadV, h r (by simp [refsV, refs1])]
  | vptr r n i o => simp only [loadV, h r (by simp [refsV, refs1])]
  | p x => cases x <;> rfl
  | _ => rfl

theorem eqlV_congr {cst : Bool} {und : Und} {x y : V} (hx : ∀ r ∈ refsV x, fs.obj r = fs'.obj r) : eqlV E fs cst und x y = eqlV E fs' cst und x y := by
  unfold eqlV
  split <;> first | rfl | (rename_i r n; rw [hx r (by simp [refsV, refs1])]) | (rename_i e r n; rw [hx r (by simp [refsV, refs1])])

theorem binV_congr {op : BinOp} {t : Nat} {cst : Bool} {x y : V} (hx : ∀ r ∈ refsV x, fs.obj r = fs'.obj r) : binV E fs op t cst x y = binV E fs' op t cst x y := by
  unfold binV
  split <;> first | rfl | skip
  split
  · rfl
  · rw [eqlV_congr hx]

theorem convV_congr {s d : Nat} {x : V} (hx : ∀ r ∈ refsV x, fs.obj r = fs'.obj r) : convV E fs s d x = convV E fs' s d x := by
  have he : expS fs x = expS fs' x := expS_congr fun r hr => hx r (refs1_V hr)
  unfold convV
  split
  · split <;> first | rfl | rw [he]
  · rfl

theorem indexAddrV_congr {t : Nat} {x : V} {i : Int} (hx : ∀ r ∈ refsV x, fs.obj r = fs'.obj r) : indexAddrV E fs t x i = indexAddrV E fs' t x i := by
  unfold indexAddrV
  split
  · rfl
  · split
    · split <;> first | rfl | (rename_i r n _; rw [hx r (by simp [refsV, refs1])]) | (rename_i r n; rw [hx r (by simp [refsV, refs1])])
    · rfl

theorem sliceV_congr {t : Nat} {x : V} {lo hi mx : Option (Option V)} (hx : ∀ r ∈ refsV x, fs.obj r = fs'.obj r) : sliceV E fs t x lo hi mx = sliceV E fs' t x lo hi mx := by
  have he : expS fs x = expS fs' x := expS_congr fun r hr => hx r (refs1_V hr)
  unfold sliceV
  split
  · rfl
  · split <;> first | rfl | rw [he]

theorem mapEs_congr {x : V} (hx : ∀ r ∈ refsV x, fs.obj r = fs'.obj r) : mapEs fs x = mapEs fs' x := by
  cases x with
  | map r => simp only [mapEs, hx r (by simp [refsV, refs1])]
  | p x => cases x <;> rfl
  | _ => rfl

theorem lookupV_congr {t : Nat} {x k : V} {ok : Bool} (hx : ∀ r ∈ refsV x, fs.obj r = fs'.obj r) : lookupV E fs t x k ok = lookupV E fs' t x k ok := by
  unfold lookupV
  rw [mapEs_congr hx]

theorem lenOp_congr {t : Nat} {x : V} (hx : ∀ r ∈ refsV x, fs.obj r = fs'.obj r) : lenOp E fs t x = lenOp E fs' t x := by
  have he : mapEs fs x = mapEs fs' x := mapEs_congr hx
  unfold lenOp
  split
  · rfl
  · split <;> first | rfl | rw [he] | (rename_i r n _; rw [hx r (by simp [refsV, refs1])]) | (rename_i r n; rw [hx r (by simp [refsV, refs1])])
end

/-- A state that agrees with another one on what an operation looks at. -/
structure Sees (E : En) (o : Op) (fs fs' : FS) : Prop where
  ev : ∀ x ∈ o.operands.toList, evalO E fs.env x = evalO E fs'.env x
  ob : peeks o = true → ∀ x ∈ o.operands.toList, ∀ v, evalO E fs'.env x = some v → ∀ r ∈ refsV v, fs.obj r = fs'.obj r

theorem Sees.mask {E : En} {o : Op} {fs : FS} : Sees E o (maskQ (tmpsO o) (rdO fs.env o) fs) fs where
  ev x hx := by
    cases x with
    | tmp t =>
      have : t ∈ tmpsO o := by
        unfold tmpsO
        rw [List.mem_filterMap]
        exact ⟨.tmp t, hx, rfl⟩
      simp only [evalO, maskQ, maskE_at this]
    | _ => rfl
  ob hp x hx v hv r hr := by
    refine mask_obj ?_
    unfold rdO
    rw [if_pos hp]
    unfold readsOf
    rw [List.mem_flatMap]
    refine ⟨x, hx, ?_⟩
    cases x with
    | tmp t =>
      simp only [evalO] at hv
      simp only [hv]
      exact hr
    | const c =>
      simp only [evalO, Option.map_eq_some_iff] at hv
      obtain ⟨p, _, rfl⟩ := hv
      simp [refsV, refs1] at hr
    | global g =>
      simp only [evalO, Option.map_eq_some_iff] at hv
      obtain ⟨p, _, rfl⟩ := hv
      simp [refsV, refs1] at hr
    | func f =>
      simp only [evalO, Option.some.injEq] at hv
      subst hv
      simp [refsV, refs1] at hr

theorem bind_congr {α β : Type} {x : Option α} {f g : α → Option β} (h : ∀ a, x = some a → f a = g a) : x.bind f = x.bind g := by
  cases x with
  | none => rfl
  | some a => exact h a rfl

theorem Sees.one {E : En} {o : Op} {fs fs' : FS} (s : Sees E o fs fs') {β : Type} {x : Operand} {f : FS → V → Option β} (hp : peeks o = true) (hx : x ∈ o.operands.toList) (hf : ∀ v, (∀ r ∈ refsV v, fs.obj r = fs'.obj r) → f fs v = f fs' v) : (evalO E fs.env x).bind (f fs) = (evalO E fs'.env x).bind (f fs') := by
  rw [s.ev x hx]
  exact bind_congr fun v hv => hf v (s.ob hp x hx v hv)

theorem qV_congr {E : En} {o : Op} {fs fs' : FS} (s : Sees E o fs fs') : qV E fs o = qV E fs' o := by
  cases o with
  | move x => exact s.ev x (by simp [Op.operands])
  | assign x => exact s.ev x (by simp [Op.operands])
  | pick c a b => simp only [qV, s.ev c (by simp [Op.operands]), s.ev a (by simp [Op.operands]), s.ev b (by simp [Op.operands])]
  | build t parts =>
    simp only [qV]
    unfold buildV
    have hp : ∀ place, partsOf place (evalO E fs.env) parts.toList = partsOf place (evalO E fs'.env) parts.toList := by
      intro place
      have hmem : ∀ q ∈ parts.toList, evalO E fs.env q.2 = evalO E fs'.env q.2 := fun q hq => s.ev q.2 (by simp only [Op.operands]; exact List.mem_map.2 ⟨q, hq, rfl⟩)
      revert hmem
      generalize parts.toList = l
      intro hmem
      induction l with
      | nil => rfl
      | cons q r ih =>
        obtain ⟨i, x⟩ := q
        simp only [partsOf, hmem (i, x) (by simp), ih fun q hq => hmem q (List.mem_cons_of_mem _ hq)]
    simp only [hp]
  | buildSlice t len parts =>
    simp only [qV]
    have hmem : ∀ q ∈ parts.toList, (evalO E fs.env q.2).bind (pureA fs) = (evalO E fs'.env q.2).bind (pureA fs') := fun q hq =>
      s.one (f := pureA) rfl (by simp only [Op.operands]; exact List.mem_map.2 ⟨q, hq, rfl⟩) fun v hv => pureA_congr hv
    have hl : ∀ size es, litL (fun x => (evalO E fs.env x).bind (pureA fs)) size es parts.toList = litL (fun x => (evalO E fs'.env x).bind (pureA fs')) size es parts.toList := by
      intro size
      revert hmem
      generalize parts.toList = l
      intro hmem
      induction l with
      | nil => intro es; rfl
      | cons q r ih =>
        obtain ⟨i, x⟩ := q
        intro es
        simp only [litL, hmem (i, x) (by simp), ih fun q hq => hmem q (List.mem_cons_of_mem _ hq)]
    unfold buildSliceV
    simp only [hl]
  | load t a =>
    simp only [qV]
    rw [s.ev a (by simp [Op.operands])]
    split
    · rename_i ti v hT hv
      exact loadV_congr (s.ob rfl a (by simp [Op.operands]) v hv)
    · rfl
  | nilCheck x => simp only [qV, s.ev x (by simp [Op.operands])]
  | binOp op t x y yt =>
    simp only [qV]
    rw [s.ev x (by simp [Op.operands]), s.ev y (by simp [Op.operands])]
    split
    · rename_i a b ha hb
      exact binV_congr (s.ob rfl x (by simp [Op.operands]) a ha)
    · rfl
  | unOp op t x => simp only [qV, s.ev x (by simp [Op.operands])]
  | convert a d x => exact s.one (f := fun fs => convV E fs a d) rfl (by simp [Op.operands]) fun v hv => convV_congr hv
  | makeInterface t x =>
    simp only [qV]
    rw [s.one (f := pureA) rfl (by simp [Op.operands]) fun v hv => pureA_congr hv]
  | makeFunc fn first captured =>
    simp only [qV]
    rw [mapO_congr (l := first.toList) (g := fun x => (evalO E fs'.env x).bind (expS fs')) fun x hx => s.one (f := expS) rfl (by simp [Op.operands, hx]) fun v hv => expS_congr fun r hr => hv r (refs1_V hr),
      mapO_congr (l := captured.toList) (g := fun x => (evalO E fs'.env x).bind (expS fs')) fun x hx => s.one (f := expS) rfl (by simp [Op.operands, hx]) fun v hv => expS_congr fun r hr => hv r (refs1_V hr)]
  | slice t x lo hi mx =>
    have hopt : ∀ y, (∀ z, y = some z → z ∈ (Op.slice t x lo hi mx).operands.toList) → optO (evalO E fs.env) y = optO (evalO E fs'.env) y := by
      intro y hy
      cases y with
      | none => rfl
      | some z => simp only [optO, s.ev z (hy z rfl)]
    simp only [qV]
    rw [hopt lo fun z hz => by subst hz; simp [Op.operands], hopt hi fun z hz => by subst hz; simp [Op.operands], hopt mx fun z hz => by subst hz; simp [Op.operands]]
    exact s.one (f := fun fs v => sliceV E fs t v _ _ _) rfl (by simp [Op.operands]) fun v hv => sliceV_congr hv
  | fieldAddr t x f => simp only [qV, s.ev x (by simp [Op.operands])]
  | field t x f => simp only [qV, s.ev x (by simp [Op.operands])]
  | indexAddr t x i =>
    simp only [qV]
    rw [s.ev x (by simp [Op.operands]), s.ev i (by simp [Op.operands])]
    split
    · rename_i v j hv hj
      exact indexAddrV_congr (s.ob rfl x (by simp [Op.operands]) v hv)
    · rfl
  | index t x i => simp only [qV, s.ev x (by simp [Op.operands]), s.ev i (by simp [Op.operands])]
  | lookup t x i ok =>
    simp only [qV]
    rw [s.ev x (by simp [Op.operands]), s.ev i (by simp [Op.operands])]
    split
    · rename_i v j hv hj
      exact lookupV_congr (s.ob rfl x (by simp [Op.operands]) v hv)
    · rfl
  | typeAssert x a t ok => simp only [qV, s.ev x (by simp [Op.operands])]
  | extract x i => simp only [qV, s.ev x (by simp [Op.operands])]
  | call c =>
    have hmem : ∀ x ∈ c.args.toList, x ∈ (Op.call c).operands.toList := fun x hx => by simp [Op.operands, Call.operands, hx]
    simp only [qV]
    split
    · rename_i x r hcl hargs
      split
      · exact s.one (f := fun fs => lenOp E fs _) rfl (hmem x (by rw [hargs]; simp)) fun v hv => lenOp_congr hv
      · rfl
    · rename_i x r hcl hargs
      rw [s.ev x (hmem x (by rw [hargs]; simp)), mapO_congr (l := r) (g := evalO E fs'.env) fun y hy => s.ev y (hmem y (by rw [hargs]; simp [hy]))]
    · rename_i x r hcl hargs
      rw [s.ev x (hmem x (by rw [hargs]; simp)), mapO_congr (l := r) (g := evalO E fs'.env) fun y hy => s.ev y (hmem y (by rw [hargs]; simp [hy]))]
    · rfl
  | _ => rfl

theorem qV_mask {E : En} {o : Op} {fs : FS} : qV E (maskQ (tmpsO o) (rdO fs.env o) fs) o = qV E fs o := qV_congr .mask
end Go.AE

namespace Go.AE
open Go

/-- Another environment. -/
def wE (fs : FS) (e : Tr) : FS := { fs with env := e }

section
variable {E : En} {fs : FS} {e : Tr}

theorem obj_wE (r : Ref) : (wE fs e).obj r = fs.obj r := by cases r <;> rfl
theorem setObj_wE (r : Ref) (o : Obj) : (wE fs e).setObj r o = wE (fs.setObj r o) e := by cases r <;> rfl
theorem newObj_wE (g : Bool) (o : Obj) : (wE fs e).newObj g o = ((fs.newObj g o).1, wE (fs.newObj g o).2 e) := by cases g <;> rfl
theorem expS_wE (v : V) : expS (wE fs e) v = expS fs v := expS_congr fun r _ => obj_wE r
theorem expA_wE (v : V) : expA (wE fs e) v = expA fs v := expA_congr fun r _ => obj_wE r
theorem pureA_wE (v : V) : pureA (wE fs e) v = pureA fs v := pureA_congr fun r _ => obj_wE r
theorem keepS_wE (v : V) : keepS (wE fs e) v = keepS fs v := by
  unfold keepS
  split
  · rfl
  · exact expA_wE _
theorem expSf_wE : expS (wE fs e) = expS fs := funext expS_wE
theorem keepSf_wE : keepS (wE fs e) = keepS fs := funext keepS_wE
theorem expAf_wE : expA (wE fs e) = expA fs := funext expA_wE

theorem growL_wE {g : Bool} : ∀ {offs : List Nat} {cs : List V} {fs : FS}, growL g offs cs (wE fs e) = (growL g offs cs fs).map fun q => (q.1, wE q.2 e) := by
  intro offs
  induction offs with
  | nil => intro cs fs; rfl
  | cons off r ih =>
    intro cs fs
    simp only [growL]
    split
    · simp only [newObj_wE]
      exact ih
    · rfl

theorem storeV_wE {ti : TI} {p v : V} : storeV (wE fs e) ti p v = (storeV fs ti p v).map fun f => wE f e := by
  unfold storeV
  split
  · rename_i r off
    rw [obj_wE, keepS_wE]
    split
    · split
      · simp only [setObj_wE]
        split <;> rfl
      · rfl
    · rfl
  · rename_i r n i off
    rw [obj_wE, pureA_wE]
    split
    · split
      · split
        · split
          · simp only [setObj_wE]; rfl
          · rfl
        · rfl
      · rfl
    · rfl
  · rfl

theorem mapSet_wE {t : Nat} {m k v : V} : mapSet E (wE fs e) t m k v = (mapSet E fs t m k v).map fun f => wE f e := by
  unfold mapSet
  split
  · split
    · rw [obj_wE, keepS_wE]
      split
      · split
        · simp only [setObj_wE, Option.map_map]; rfl
        · rfl
      · rfl
    · rfl
  · rfl

theorem moreOf_wE {v : V} : moreOf (wE fs e) v = moreOf fs v := by
  unfold moreOf; rw [expS_wE]

theorem appendV_wE {g hole : Bool} {t : Nat} {x y : V} : appendV E (wE fs e) g hole t x y = (appendV E fs g hole t x y).map fun q => (q.1, wE q.2 e) := by
  unfold appendV
  rw [moreOf_wE]
  split
  · split
    · split
      · rfl
      · split
        · rw [obj_wE]
          split
          · split
            · simp only [setObj_wE, Option.map_some]
              congr 2
              split <;> rfl
            · rfl
          · rfl
        · split
          · rfl
          · rfl
          · rfl
          · split
            · simp only [newObj_wE]; rfl
            · rfl
          · split
            · simp only [newObj_wE]; rfl
            · rfl
          · rfl
        · rfl
    · rfl
  · rfl

theorem frzR_wE (r : Ref) : frzR (wE fs e) r = wE (frzR fs r) e := by
  unfold frzR
  rw [obj_wE]
  split
  · split
    · rfl
    · exact setObj_wE _ _
  · rfl

theorem frz1_wE (v : V) : frz1 (wE fs e) v = wE (frz1 fs v) e := by
  cases v <;> first | rfl | exact frzR_wE _

theorem fold_wE {α : Type} {g : FS → α → FS} (h : ∀ fs x, g (wE fs e) x = wE (g fs x) e) : ∀ (l : List α) (fs : FS), l.foldl g (wE fs e) = wE (l.foldl g fs) e := by
  intro l
  induction l with
  | nil => intro fs; rfl
  | cons x r ih => intro fs; rw [List.foldl_cons, List.foldl_cons, h, ih]

theorem frzA_wE (v : V) : frzA (wE fs e) v = wE (frzA fs v) e := by
  unfold frzA
  split
  · exact fold_wE (fun fs x => frz1_wE (fs := fs) x) _ _
  · exact frz1_wE _
end

theorem eV_wE {E : En} {C : CallF} {A : Ann} {rid i : Nat} {o : Op} {fs : FS} {e : Tr} (hz : hasA A.frz rid i = false) (he : ∀ x ∈ o.operands.toList, evalO E e x = evalO E fs.env x) :
    eV E C (wE fs e) A rid i o = (eV E C fs A rid i o).map fun q => (q.1, wE q.2 e) := by
  have henv : (wE fs e).env = e := rfl
  cases o with
  | alloc t =>
    simp only [eV]
    split
    · rw [growL_wE]
      simp only [Option.map_map]
      congr 1
      funext q
      obtain ⟨cs, f⟩ := q
      simp only [Function.comp, newObj_wE]
    · rfl
  | box t x =>
    simp only [eV, henv, he x (by simp [Op.operands])]
    split
    · split
      · split
        · rw [expSf_wE, keepSf_wE]
          split
          · rfl
          · split
            · simp only [newObj_wE]; rfl
            · rfl
        · rw [growL_wE]
          cases growL (hasA A.glob rid i) (offsA A.vecs rid i) _ fs with
          | none => rfl
          | some q =>
            obtain ⟨cs, f⟩ := q
            simp only [Option.map_some, keepSf_wE, newObj_wE]
            split <;> rfl
      · rfl
    · rfl
  | store t a x =>
    simp only [eV, henv, he a (by simp [Op.operands]), he x (by simp [Op.operands]), hz, Bool.false_eq_true, if_false]
    split
    · rename_i ti p v _ _ _
      rw [storeV_wE]
      cases storeV fs ti p v <;> rfl
    · rfl
  | makeSlice t l c =>
    simp only [eV, henv, he l (by simp [Op.operands]), he c (by simp [Op.operands])]
    split
    · split
      · split
        · split
          · split
            · simp only [newObj_wE]; rfl
            · split
              · split
                · simp only [newObj_wE]; rfl
                · rfl
              · rfl
          · rfl
        · rfl
      · rfl
    · rfl
  | makeMap t r =>
    cases r with
    | none => rfl
    | some r => rfl
  | mapUpdate t m k v =>
    simp only [eV, henv, he m (by simp [Op.operands]), he k (by simp [Op.operands]), he v (by simp [Op.operands])]
    split
    · rw [mapSet_wE]
      simp only [Option.map_map]; rfl
    · rfl
  | insert t m k v =>
    simp only [eV, henv, he m (by simp [Op.operands]), he k (by simp [Op.operands]), he v (by simp [Op.operands])]
    split
    · rw [mapSet_wE]
      simp only [Option.map_map]; rfl
    · rfl
  | call c =>
    have hmem : ∀ x ∈ c.args.toList, evalO E e x = evalO E fs.env x := fun x hx => he x (by simp [Op.operands, Call.operands, hx])
    cases hcl : c.callee with
    | builtin b =>
      cases b with
      | append =>
        simp only [eV, hcl]
        split
        · rename_i x y t tx hargs hts
          rw [henv, hmem x (by rw [hargs]; simp), hmem y (by rw [hargs]; simp)]
          split
          · split
            · exact appendV_wE
            · rfl
          · rfl
        · rfl
      | delete =>
        simp only [eV, hcl]
        split
        · rename_i m k t ts hargs hts
          rw [henv, hmem m (by rw [hargs]; simp), hmem k (by rw [hargs]; simp)]
          split
          · rename_i r k ti hm hk hti
            rw [obj_wE]
            split
            · split
              · split
                · simp only [Option.map_map, setObj_wE]; rfl
                · rfl
              · rfl
            · rfl
          · rfl
        · rfl
      | _ => simp only [eV, hcl]; rfl
    | value f =>
      have hf : evalO E e f = evalO E fs.env f := he f (by simp [Op.operands, Call.operands, hcl])
      simp only [eV, hcl, henv]
      rw [mapO_congr hmem]
      split
      · rfl
      · rename_i vs hvs
        rw [fold_wE (fun fs x => frzA_wE (fs := fs) x) vs fs, expAf_wE]
        have h1 : (wE (vs.foldl frzA fs) e).env = e := rfl
        have h2 : (vs.foldl frzA fs).env = fs.env := foldl_env frzA_env vs fs
        have h3 : (wE (vs.foldl frzA fs) e).st = (vs.foldl frzA fs).st := rfl
        rw [h1, hf, ← h2]
        split
        · simp only [Option.map_map, h3]; rfl
        · split
          · simp only [Option.map_map, h3]; rfl
          · rfl
        · rfl
    | invoke r n => simp only [eV, hcl]; rfl
  | _ => rfl

theorem eV_env {E : En} {C : CallF} {A : Ann} {rid i : Nat} {o : Op} {fs fs2 : FS} {v : V} (hz : hasA A.frz rid i = false) (h : eV E C fs A rid i o = some (v, fs2)) : fs2.env = fs.env := by
  have := eV_wE (C := C) (A := A) (fs := fs) (e := fs.env) hz fun (x : Operand) (_ : x ∈ o.operands.toList) => (rfl : evalO E fs.env x = evalO E fs.env x)
  rw [show wE fs fs.env = fs from rfl, h] at this
  simp only [Option.map_some, Option.some.injEq, Prod.mk.injEq, true_and] at this
  have e := congrArg FS.env this
  exact e

theorem eV_mask {E : En} {C : CallF} {A : Ann} {rid i : Nat} {o : Op} {fs : FS} (hz : hasA A.frz rid i = false) :
    eV E C { fs with env := maskE (tmpsO o) fs.env } A rid i o = (eV E C fs A rid i o).map fun q => (q.1, wE q.2 (maskE (tmpsO o) fs.env)) :=
  eV_wE (fs := fs) hz fun x hx => by
    have := (Sees.mask (E := E) (o := o) (fs := fs)).ev x hx
    exact this

end Go.AE

namespace Go.AE
open Go

def HeapEq (fs fs' : FS) : Prop := fs.locs = fs'.locs ∧ fs.nid = fs'.nid ∧ fs.st = fs'.st

theorem HeapEq.obj {fs fs' : FS} (h : HeapEq fs fs') (r : Ref) : fs.obj r = fs'.obj r := by
  cases r with
  | loc id => simp only [FS.obj, h.1]
  | glob n => simp only [FS.obj, h.2.2]
theorem HeapEq.refl (fs : FS) : HeapEq fs fs := ⟨rfl, rfl, rfl⟩
theorem HeapEq.symm {fs fs' : FS} (h : HeapEq fs fs') : HeapEq fs' fs := ⟨h.1.symm, h.2.1.symm, h.2.2.symm⟩
theorem HeapEq.trans {f g h : FS} (x : HeapEq f g) (y : HeapEq g h) : HeapEq f h := ⟨x.1.trans y.1, x.2.1.trans y.2.1, x.2.2.trans y.2.2⟩
theorem put_heap (fs : FS) (d : Option Nat) (v : V) : HeapEq (fs.put d v) fs := by cases d <;> exact ⟨rfl, rfl, rfl⟩
theorem put_env (fs : FS) (d : Option Nat) (v : V) : (fs.put d v).env = match d with | some d => fs.env.set d v | none => fs.env := by cases d <;> rfl
theorem old_heap {fs fs' : FS} (h : HeapEq fs fs') {r : Ref} (g : r.old fs) : r.old fs' := by
  cases r with
  | loc id => simp only [Ref.old, ← h.2.1]; exact g
  | glob n => simp only [Ref.old, ← h.2.2]; exact g

section
variable {k : K} {X : XR} {w : World} {cx : Cx} {a : Act}

/-- A new object that nobody knows of in memory. -/
theorem FR.ghost {fs : FS} (fr : FR k X w cx fs a) (g : Bool) {o : Obj} (hgl : globO o = true) : FR k X w cx (fs.newObj g o).2 a := by
  have hne := new_fresh fr g o
  have hold : ∀ r : Ref, r.old fs → r.old (fs.newObj g o).2 := fun r h => new_older h
  refine ⟨fr.size, fr.pre, fr.preS, fr.slt, fun r o' ho hal => ?_, fr.non, fr.own1, fr.own2, fr.xlt, fun id h => hold (.loc id) (fr.alL id h), fun n h => hold (.glob n) (fr.alG n h), fun id o' ho => ?_, fun n o' ho => ?_, by cases g <;> exact fr.len, fun i v c hv hc => fr.env i v c (by cases g <;> exact hv) hc, fr.defers, fun n o' ho => ?_, fun r h => ⟨(fr.res r h).1, hold r (fr.res r h).2⟩⟩
  · rw [obj_new] at ho
    split at ho
    · rename_i e
      subst e
      exact (hne.1 hal).elim
    · exact fr.obj r o' ho hal
  · rw [obj_new] at ho
    split at ho
    · rename_i e
      cases g
      · simp only [FS.newObj, Bool.false_eq_true, if_false, Ref.loc.injEq] at e
        subst e
        exact Nat.lt_succ_self _
      · simp [FS.newObj] at e
    · exact hold (.loc id) (fr.obL id o' ho)
  · rw [obj_new] at ho
    split at ho
    · rename_i e
      cases g
      · simp [FS.newObj] at e
      · simp only [FS.newObj, if_true, Ref.glob.injEq] at e
        subst e
        exact Nat.lt_succ_self _
    · exact hold (.glob n) (fr.obG n o' ho)
  · rw [obj_new] at ho
    split at ho
    · simp only [Option.some.injEq] at ho
      subst ho; exact hgl
    · exact fr.gl n o' ho

theorem FR.env_of {fs : FS} (fr : FR k X w cx fs a) {fs' : FS} (h : HeapEq fs fs') (he : fs'.env = fs.env) : FR k X w cx fs' a := by
  obtain ⟨env, locs, nid, st⟩ := fs
  obtain ⟨env', locs', nid', st'⟩ := fs'
  obtain ⟨h1, h2, h3⟩ := h
  simp only at h1 h2 h3 he
  subst h1; subst h2; subst h3; subst he
  exact fr
end

theorem hoisted_alloc {o : Oper} (h : hoisted o = true) : o.guard = none ∧ ∃ t, o.op = .alloc t := by
  unfold hoisted at h
  split at h
  · rename_i h1 h2; exact ⟨h2, _, h1⟩
  · cases h

/-- What hoisted operations lay. -/
theorem hoistV_spec {E : En} {C : CallF} {A : Ann} {rid : Nat} : ∀ (rest : List Oper) (i : Nat) (fs fs0 : FS), hoistV E C A rid i rest fs = some fs0 →
    fs0.env.dom fs.env ∧
    (∀ t, (∀ (j : Nat) (o : Oper), rest[j]? = some o → hoisted o = true → o.dst ≠ some t) → (fs0.env.get t) = (fs.env.get t)) ∧
    (∀ r : Ref, r.old fs → fs0.obj r = fs.obj r ∧ r.old fs0) ∧
    (∀ (k : K) (X : XR) (w : World) (cx : Cx) (a : Act) (env0 : Tr), FR k X w cx { fs with env := env0 } a → FR k X w cx { fs0 with env := env0 } a) ∧
    ∃ H : Nat → Ref, (∀ (j : Nat) (o : Oper), rest[j]? = some o → hoisted o = true →
        (∃ t ti, o.op = .alloc t ∧ E.T t = some ti ∧ fs0.obj (H (i + j)) = some (.cells (ti.zero.map .p))) ∧ ¬ (H (i + j)).old fs ∧ (H (i + j)).old fs0 ∧
        ∀ d, o.dst = some d → (∀ (j' : Nat) (o' : Oper), j < j' → rest[j']? = some o' → o'.dst ≠ some d) → (fs.env.get d).isSome = true → (fs0.env.get d) = some (.ptr (H (i + j)) 0)) ∧
      ∀ (j j' : Nat) (o o' : Oper), j < j' → rest[j]? = some o → rest[j']? = some o' → hoisted o = true → hoisted o' = true → H (i + j) ≠ H (i + j') := by
  intro rest
  induction rest with
  | nil =>
    intro i fs fs0 h
    simp only [hoistV, Option.some.injEq] at h; subst h
    exact ⟨Tr.dom_refl _, fun _ _ => rfl, fun r h => ⟨rfl, h⟩, fun _ _ _ _ _ _ h => h, fun _ => .loc 0, fun j o h => by simp at h, fun j j' o o' _ h => by simp at h⟩
  | cons o rest ih =>
    intro i fs fs0 h
    simp only [hoistV] at h
    split at h
    · rename_i hh
      obtain ⟨_, t, ht⟩ := hoisted_alloc hh
      split at h
      · rename_i hoffs
        split at h
        · rename_i v fs1 he
          -- the alloc itself
          have key : ∃ ti, E.T t = some ti ∧ v = .ptr (fs.newObj (hasA A.glob rid i) (.cells (ti.zero.map .p))).1 0 ∧ fs1 = (fs.newObj (hasA A.glob rid i) (.cells (ti.zero.map .p))).2 := by
            rw [ht] at he
            unfold eV at he
            simp only at he
            split at he
            · rename_i ti hT
              have : offsA A.vecs rid i = [] := by simpa using hoffs
              simp only [this, growL, Option.map_some, Option.some.injEq, Prod.mk.injEq] at he
              exact ⟨ti, hT, he.1.symm, he.2.symm⟩
            · cases he
          obtain ⟨ti, hT, rfl, rfl⟩ := key
          generalize hg : hasA A.glob rid i = g at h he
          generalize ho : Obj.cells (ti.zero.map .p) = ob at h he
          obtain ⟨i1, i2, i3, i4, H, i5, i6⟩ := ih (i + 1) _ fs0 h
          have hp := put_heap (fs.newObj g ob).2 o.dst (.ptr (fs.newObj g ob).1 0)
          have henv : (fs.newObj g ob).2.env = fs.env := by cases g <;> rfl
          have olds : ∀ r : Ref, r.old fs → r.old ((fs.newObj g ob).2.put o.dst (.ptr (fs.newObj g ob).1 0)) := fun r h => old_heap hp.symm (new_older h)
          have rold : (fs.newObj g ob).1.old ((fs.newObj g ob).2.put o.dst (.ptr (fs.newObj g ob).1 0)) := by
            refine old_heap hp.symm ?_
            cases g <;> simp [FS.newObj, Ref.old, St.push]
          have rnew : ¬ (fs.newObj g ob).1.old fs := by
            cases g <;> simp [FS.newObj, Ref.old]
          have robj : ((fs.newObj g ob).2.put o.dst (.ptr (fs.newObj g ob).1 0)).obj (fs.newObj g ob).1 = some ob := by
            rw [hp.obj, obj_new, if_pos rfl]
          refine ⟨?_, fun t' ht' => ?_, fun r hr => ?_, fun k X w cx a env0 fr => ?_, fun n => if n = i then (fs.newObj g ob).1 else H n, fun j p hp' hhp => ?_, fun j j' p p' hjj hp' hp'' hhp hhp' => ?_⟩
          · refine i1.trans ?_
            rw [put_env]
            cases o.dst with
            | none => rw [henv]; exact Tr.dom_refl _
            | some d => simp only [henv]; exact Tr.dom_set _ _ _
          · rw [i2 t' fun j p hj hp => ht' (j + 1) p (by simpa using hj) hp, put_env]
            have := ht' 0 o rfl hh
            cases hd : o.dst with
            | none => simp [henv]
            | some d =>
              have hne : d ≠ t' := by
                intro e; subst e
                exact this hd
              simp only [henv]
              rw [Tr.get_set_ne hne]
          · obtain ⟨h1, h2⟩ := i3 r (olds r hr)
            exact ⟨by rw [h1, hp.obj, new_other hr], h2⟩
          · refine i4 k X w cx a env0 ?_
            have f1 := fr.ghost g (o := ob) (by subst ho; simp [globO, List.all_map, Function.comp_def, glob1])
            refine f1.env_of ?_ ?_
            · have e1 : HeapEq (FS.newObj { fs with env := env0 } g ob).2 (fs.newObj g ob).2 := by cases g <;> exact ⟨rfl, rfl, rfl⟩
              exact e1.trans hp.symm
            · cases g <;> rfl
          · cases j with
            | zero =>
              simp only [List.getElem?_cons_zero, Option.some.injEq] at hp'
              subst hp'
              simp only [Nat.add_zero, if_true]
              obtain ⟨h1, h2⟩ := i3 _ rold
              refine ⟨⟨t, ti, ht, hT, by rw [h1, robj, ho]⟩, rnew, h2, fun d hd hlast hlen => ?_⟩
              rw [i2 d fun j p hj hp => hlast (j + 1) p (by omega) (by simpa using hj), put_env, hd]
              simp only [henv, Tr.get_set, if_true]
              cases hg : fs.env.get d with
              | none => rw [hg] at hlen; cases hlen
              | some u => rfl
            | succ j =>
              have hne : ¬ (i + (j + 1) = i) := by omega
              have e : i + (j + 1) = i + 1 + j := by omega
              simp only [hne, if_false]
              obtain ⟨h1, h2, h3, h4⟩ := i5 j p (by simpa using hp') hhp
              rw [← e] at h1 h2 h3 h4
              refine ⟨h1, fun hold => h2 (olds _ hold), h3, fun d hd hlast hlen => h4 d hd (fun j' p' hj hp' => hlast (j' + 1) p' (by omega) (by simpa using hp')) ?_⟩
              rw [put_env]
              cases o.dst with
              | none => rw [henv]; exact hlen
              | some d' => simp only [henv]; rw [Tr.dom_set]; exact hlen
          · cases j' with
            | zero => omega
            | succ j' =>
              have hne' : ¬ (i + (j' + 1) = i) := by omega
              have e' : i + (j' + 1) = i + 1 + j' := by omega
              cases j with
              | zero =>
                simp only [Nat.add_zero, if_true, hne', if_false]
                intro e
                obtain ⟨_, h2, _⟩ := i5 j' p' (by simpa using hp'') hhp'
                rw [← e', ← e] at h2
                exact h2 rold
              | succ j =>
                have hne : ¬ (i + (j + 1) = i) := by omega
                have e : i + (j + 1) = i + 1 + j := by omega
                simp only [hne, hne', if_false]
                rw [e, e']
                exact i6 j j' p p' (by omega) (by simpa using hp') (by simpa using hp'') hhp hhp'
        · cases h
      · cases h
    · rename_i hh
      obtain ⟨i1, i2, i3, i4, H, i5, i6⟩ := ih (i + 1) fs fs0 h
      refine ⟨i1, fun t' ht' => i2 t' fun j p hj hp => ht' (j + 1) p (by simpa using hj) hp, i3, i4, H, fun j p hp hhp => ?_, fun j j' p p' hjj hp hp' hhp hhp' => ?_⟩
      · cases j with
        | zero =>
          simp only [List.getElem?_cons_zero, Option.some.injEq] at hp
          subst hp
          exact absurd hhp hh
        | succ j =>
          have e : i + (j + 1) = i + 1 + j := by omega
          obtain ⟨h1, h2, h3, h4⟩ := i5 j p (by simpa using hp) hhp
          rw [e]
          exact ⟨h1, h2, h3, fun d hd hlast hlen => h4 d hd (fun j' p' hj hp' => hlast (j' + 1) p' (by omega) (by simpa using hp')) hlen⟩
      · cases j with
        | zero =>
          simp only [List.getElem?_cons_zero, Option.some.injEq] at hp
          subst hp
          exact absurd hhp hh
        | succ j => cases j' with
          | zero => omega
          | succ j' =>
            have e : i + (j + 1) = i + 1 + j := by omega
            have e' : i + (j' + 1) = i + 1 + j' := by omega
            rw [e, e']
            exact i6 j j' p p' (by omega) (by simpa using hp) (by simpa using hp') hhp hhp'

end Go.AE

namespace Go.AE
open Go

theorem stepD_cases {E : En} {C : CallF} {A : Ann} {rid : Nat} {ops : List Oper} {i : Nat} {o : Oper} {fs fs' : FS} {q : Option Rec} (h : stepD E C A rid ops i o fs = some (fs', q)) :
    (wantV fs.env ops o = some false ∧ fs' = fs.put o.dst undefV ∧ q = none) ∨
    (wantV fs.env ops o = some true ∧ isQuiet o.op = true ∧ (offsA A.vecs rid i).isEmpty = true ∧ ∃ v, qV E (maskQ (tmpsO o.op) (rdO fs.env o.op) fs) o.op = some v ∧ fs' = fs.put o.dst v ∧ q = some (.rd i (rdO fs.env o.op))) ∨
    (wantV fs.env ops o = some true ∧ isQuiet o.op = false ∧ hasA A.frz rid i = false ∧ ∃ v fs2, eV E C { fs with env := maskE (tmpsO o.op) fs.env } A rid i o.op = some (v, fs2) ∧ fs' = FS.put { fs2 with env := fs.env } o.dst v ∧
      q = some (if isCall o.op then .ca i fs.st fs2.st (readsOf fs.env o.op) else .wr i (wrO fs.env o.op) fs.nid fs.st.next)) := by
  unfold stepD at h
  simp only [qF_eq, eF_eq] at h
  split at h
  · rename_i hw
    split at h
    · rename_i hq
      split at h
      · rename_i hv
        split at h
        · rename_i v hqv
          simp only [Option.some.injEq, Prod.mk.injEq] at h
          exact .inr (.inl ⟨hw, hq, hv, v, by rw [qV_mask]; exact hqv, h.1.symm, h.2.symm⟩)
        · cases h
      · cases h
    · rename_i hq
      split at h
      · cases h
      · rename_i hz
        split at h
        · rename_i v fs2 he
          simp only [Option.some.injEq, Prod.mk.injEq] at h
          exact .inr (.inr ⟨hw, by simpa using hq, by simpa using hz, v, wE fs2 (maskE (tmpsO o.op) fs.env), by rw [eV_mask (by simpa using hz), he]; rfl, h.1.symm, h.2.symm⟩)
        · cases h
  · rename_i hw
    simp only [Option.some.injEq, Prod.mk.injEq] at h
    exact .inl ⟨hw, h.1.symm, h.2.symm⟩
  · cases h

/-- Its record is that of an effect. -/
def isEff : Option Rec → Bool
  | some (.wr ..) | some (.ca ..) => true
  | _ => false

theorem readsOf_mask {ts : List Nat} {env : Tr} {o : Op} {r : Ref} (h : r ∈ readsOf (maskE ts env) o) : r ∈ readsOf env o := by
  unfold readsOf at h ⊢
  rw [List.mem_flatMap] at h ⊢
  obtain ⟨x, hx, hr⟩ := h
  refine ⟨x, hx, ?_⟩
  split at hr
  · rename_i t
    split at hr
    · rename_i v hv
      rcases (maskE_spec ts env).2 t v hv with rfl | hv
      · simp [refsV, anyV, refs1] at hr
      · simp only [hv]; exact hr
    · simp at hr
  · simp at hr

theorem refsO_mask {ts : List Nat} {env : Tr} {x : Operand} {r : Ref} (h : r ∈ refsO (maskE ts env) x) : r ∈ refsO env x := by
  unfold refsO at h ⊢
  split at h
  · rename_i t
    split at h
    · rename_i v hv
      rcases (maskE_spec ts env).2 t v hv with rfl | hv
      · simp [anyV, refs1] at h
      · simp only [hv]; exact h
    · simp at h
  · simp at h

theorem wrO_mask {ts : List Nat} {env : Tr} {o : Op} {r : Ref} (h : r ∈ wrO (maskE ts env) o) : r ∈ wrO env o := by
  unfold wrO at h ⊢
  split at h
  · exact refsO_mask h
  · exact refsO_mask h
  · exact refsO_mask h
  · split at h
    · exact refsO_mask h
    · simp at h
  · simp at h

theorem apart_not {r : Ref} {l : List Ref} (h : apart r l = true) : r ∉ l := by
  intro hr
  unfold apart at h
  rw [List.all_eq_true] at h
  have := h r hr
  cases r <;> simp [Ref.beq] at this

theorem call_other {E : En} {C : CallF} {A : Ann} {fs fs' : FS} {rid i : Nat} {o : Op} (hc : isCall o = true) {v : V} (h : eV E C fs A rid i o = some (v, fs')) {id : Nat} (hr : Ref.loc id ∉ readsOf fs.env o) : fs'.obj (.loc id) = fs.obj (.loc id) := by
  unfold isCall at hc
  split at hc
  · rename_i c
    split at hc
    · rename_i f hf
      unfold eV at h
      simp only [hf] at h
      split at h
      · cases h
      rename_i vs hvs
      have hrefs := evals_refs (o := .call c) (fun x hx => by simp [Op.operands, Call.operands, hf, hx]) hvs hr
      have main : (vs.foldl frzA fs).obj (.loc id) = fs.obj (.loc id) := fold_other (fun v hv fs => frzA_other (hrefs v hv)) fs
      split at h
      · simp only [Option.map_eq_some_iff] at h
        obtain ⟨⟨v', st'⟩, _, h2⟩ := h
        simp only [Prod.mk.injEq] at h2
        obtain ⟨rfl, rfl⟩ := h2
        exact main
      · split at h
        · simp only [Option.map_eq_some_iff] at h
          obtain ⟨⟨v', st'⟩, _, h2⟩ := h
          simp only [Prod.mk.injEq] at h2
          obtain ⟨rfl, rfl⟩ := h2
          exact main
        · cases h
      · cases h
    · cases hc
  · cases hc

theorem eff_other {E : En} {C : CallF} {A : Ann} {rid : Nat} {ops : List Oper} {i : Nat} {o : Oper} {fs fs' : FS} {q : Rec} (h : stepD E C A rid ops i o fs = some (fs', some q)) {r : Ref} (hr : offR r q = true) : fs'.obj r = fs.obj r := by
  rcases stepD_cases h with ⟨_, _, h3⟩ | ⟨_, _, _, v, _, rfl, _⟩ | ⟨_, hq, hz, v, fs2, he, rfl, hrec⟩
  · cases h3
  · exact (put_heap _ _ _).obj r
  · rw [(put_heap _ _ _).obj r]
    have e2 : FS.obj { fs2 with env := fs.env } r = fs2.obj r := by cases r <;> rfl
    have e1 : FS.obj { fs with env := maskE (tmpsO o.op) fs.env } r = fs.obj r := by cases r <;> rfl
    rw [e2, ← e1]
    simp only [Option.some.injEq] at hrec
    subst hrec
    split at hr
    · rename_i hc
      simp only [offR] at hr
      cases r with
      | loc id => exact call_other hc he fun hm => apart_not hr (readsOf_mask hm)
      | glob n =>
        have := oBeq_eq hr
        simp only [FS.obj]
        exact this.symm
    · rename_i hc
      simp only [offR, Bool.and_eq_true] at hr
      by_cases hn : noCall o.op = true
      · refine eV_other hn hz he ?_ fun hm => apart_not hr.1 (wrO_mask hm)
        cases r with
        | loc id =>
          have : id < fs.nid := by simpa using hr.2
          exact this
        | glob n =>
          have : n < fs.st.next := by simpa using hr.2
          exact this
      · exfalso
        cases hop : o.op with
        | call c =>
          cases hcl : c.callee with
          | builtin b => simp [noCall, hop, hcl] at hn
          | value f => simp [isCall, hop, hcl] at hc
          | invoke r n =>
            rw [hop] at he
            unfold eV at he
            simp only [hcl] at he
            cases he
        | _ => simp [noCall, hop] at hn

theorem quiet_heap {E : En} {C : CallF} {A : Ann} {rid : Nat} {ops : List Oper} {i : Nat} {o : Oper} {fs fs' : FS} {q : Option Rec} (h : stepD E C A rid ops i o fs = some (fs', q)) (hq : isEff q = false) : HeapEq fs' fs := by
  rcases stepD_cases h with ⟨_, rfl, _⟩ | ⟨_, _, _, v, _, rfl, _⟩ | ⟨_, _, _, v, fs2, _, _, hrec⟩
  · exact put_heap _ _ _
  · exact put_heap _ _ _
  · subst hrec
    split at hq <;> simp [isEff] at hq

theorem step_env {E : En} {C : CallF} {A : Ann} {rid : Nat} {ops : List Oper} {i : Nat} {o : Oper} {fs fs' : FS} {q : Option Rec} (h : stepD E C A rid ops i o fs = some (fs', q)) :
    fs'.env.dom fs.env ∧ ∀ t, o.dst ≠ some t → (fs'.env.get t) = (fs.env.get t) := by
  have main : ∃ v, fs'.env = match o.dst with | some d => fs.env.set d v | none => fs.env := by
    rcases stepD_cases h with ⟨_, rfl, _⟩ | ⟨_, _, _, v, _, rfl, _⟩ | ⟨_, _, _, v, fs2, _, rfl, _⟩
    · exact ⟨_, put_env _ _ _⟩
    · exact ⟨_, put_env _ _ _⟩
    · exact ⟨v, put_env _ _ _⟩
  obtain ⟨v, hv⟩ := main
  rw [hv]
  cases hd : o.dst with
  | none => exact ⟨Tr.dom_refl _, fun _ _ => rfl⟩
  | some d =>
    refine ⟨Tr.dom_set _ _ _, fun t ht => ?_⟩
    have hne : d ≠ t := fun e => ht (by rw [e])
    simp only
    rw [Tr.get_set_ne hne]

/-- The record's own place. -/
theorem rec_at {E : En} {C : CallF} {A : Ann} {rid : Nat} {ops : List Oper} {i : Nat} {o : Oper} {fs fs' : FS} {q : Rec} (h : stepD E C A rid ops i o fs = some (fs', some q)) :
    (∃ l, q = .rd i l) ∨ (∃ l nid next, q = .wr i l nid next) ∨ ∃ s s' l, q = .ca i s s' l := by
  rcases stepD_cases h with ⟨_, _, h3⟩ | ⟨_, _, _, v, _, _, hrec⟩ | ⟨_, _, _, v, fs2, _, _, hrec⟩
  · cases h3
  · simp only [Option.some.injEq] at hrec; exact .inl ⟨_, hrec⟩
  · simp only [Option.some.injEq] at hrec
    split at hrec
    · exact .inr (.inr ⟨_, _, _, hrec⟩)
    · exact .inr (.inl ⟨_, _, _, hrec⟩)

end Go.AE

namespace Go.AE
open Go

/-- All that is known of a drawn region's run in the text's order. -/
structure Trace (E : En) (C : CallF) (A : Ann) (rid : Nat) (ops : Array Oper) (fs fs0 fsE : FS) (T : Nat → FS) (R : Nat → Option Rec) (H : Nat → Ref) : Prop where
  zero : T 0 = fs0
  fin : T ops.size = fsE
  at_ : ∀ (j : Nat) (o : Oper), ops[j]? = some o → AtD E C A rid ops.toList j o (T j) (T (j + 1)) (R j)
  ords : ∀ (i j : Nat), i < ops.size → j < ops.size → isEff (R i) = true → isEff (R j) = true → i ≠ j → ordered (befs ops.toList) i j = true
  reads : ∀ (i j : Nat) (l : List Ref) (q : Rec), i < ops.size → j < ops.size → R i = some (.rd i l) → R j = some q → isEff (some q) = true → ordered (befs ops.toList) i j = true ∨ ∀ r ∈ l, offR r q = true
  hois : ∀ (i : Nat) (o : Oper), ops[i]? = some o → hoisted o = true → (∃ t ti, o.op = .alloc t ∧ E.T t = some ti ∧ fs0.obj (H i) = some (.cells (ti.zero.map .p))) ∧ ¬ (H i).old fs ∧ (H i).old fs0 ∧
    (∃ d, o.dst = some d ∧ (fs0.env.get d) = some (.ptr (H i) 0)) ∧
    ∀ (j : Nat) (q : Rec), j < ops.size → R j = some q → isEff (some q) = true → (i < j ∧ ordered (befs ops.toList) i j = true) ∨ offR (H i) q = true
  hne : ∀ (i j : Nat) (o p : Oper), i ≠ j → ops[i]? = some o → ops[j]? = some p → hoisted o = true → hoisted p = true → H i ≠ H j
  len : fs0.env.dom fs.env
  env0 : ∀ t, (∀ (j : Nat) (o : Oper), ops[j]? = some o → hoisted o = true → o.dst ≠ some t) → (fs0.env.get t) = (fs.env.get t)
  bnd : fsE.nid ≤ bigN ∧ fsE.st.next ≤ bigN
  text : textOk ops.toList = true

section
variable {E : En} {C : CallF} {A : Ann} {rid : Nat} {ops : Array Oper} {fs fs0 fsE : FS} {T : Nat → FS} {R : Nat → Option Rec} {H : Nat → Ref}

theorem at_op {i : Nat} (h : i < ops.size) : ∃ o, ops[i]? = some o := ⟨ops[i], by simp [h]⟩

theorem size_of_at {i : Nat} {o : Oper} (h : ops[i]? = some o) : i < ops.size := (Array.getElem?_eq_some_iff.1 h).1

theorem Trace.quiet (tr : Trace E C A rid ops fs fs0 fsE T R H) {j : Nat} (hj : j < ops.size) (h : isEff (R j) = false) : HeapEq (T (j + 1)) (T j) := by
  obtain ⟨o, ho⟩ := at_op hj
  have := tr.at_ j o ho
  unfold AtD at this
  split at this
  · rw [this.1]; exact .refl _
  · exact quiet_heap this.2.2 h

theorem Trace.off (tr : Trace E C A rid ops fs fs0 fsE T R H) {j : Nat} (hj : j < ops.size) {r : Ref} (h : ∀ q, R j = some q → isEff (some q) = true → offR r q = true) : (T (j + 1)).obj r = (T j).obj r := by
  cases he : isEff (R j) with
  | false => exact (tr.quiet hj he).obj r
  | true =>
    obtain ⟨o, ho⟩ := at_op hj
    have := tr.at_ j o ho
    unfold AtD at this
    split at this
    · rw [this.1]
    · cases hq : R j with
      | none => rw [hq] at he; simp [isEff] at he
      | some q =>
        rw [hq] at this he
        exact eff_other this.2.2 (h q hq he)

/-- No effect between: the same heap. -/
theorem Trace.same (tr : Trace E C A rid ops fs fs0 fsE T R H) {i : Nat} : ∀ {j : Nat}, i ≤ j → j ≤ ops.size → (∀ n, i ≤ n → n < j → isEff (R n) = false) → HeapEq (T i) (T j) := by
  intro j hij
  induction hij with
  | refl => intro _ _; exact .refl _
  | step hij ih =>
    rename_i m
    intro hj h
    exact (ih (by omega) fun n h1 h2 => h n h1 (by omega)).trans (tr.quiet (by omega) (h m hij (by omega))).symm

theorem Trace.keep (tr : Trace E C A rid ops fs fs0 fsE T R H) {i : Nat} {r : Ref} : ∀ {j : Nat}, i ≤ j → j ≤ ops.size → (∀ n q, i ≤ n → n < j → R n = some q → isEff (some q) = true → offR r q = true) → (T j).obj r = (T i).obj r := by
  intro j hij
  induction hij with
  | refl => intro _ _; rfl
  | step hij ih =>
    rename_i m
    intro hj h
    rw [tr.off (by omega) fun q => h m q hij (by omega)]
    exact ih (by omega) fun n q h1 h2 => h n q h1 (by omega)

theorem Trace.env_step (tr : Trace E C A rid ops fs fs0 fsE T R H) {j : Nat} {o : Oper} (ho : ops[j]? = some o) : (T (j + 1)).env.dom (T j).env ∧ ∀ t, (hoisted o = false → o.dst ≠ some t) → ((T (j + 1)).env.get t) = ((T j).env.get t) := by
  have := tr.at_ j o ho
  unfold AtD at this
  split at this
  · rw [this.1]; exact ⟨Tr.dom_refl _, fun _ _ => rfl⟩
  · rename_i hh
    obtain ⟨h1, h2⟩ := step_env this.2.2
    exact ⟨h1, fun t ht => h2 t (ht (by simpa using hh))⟩

theorem Trace.env_between (tr : Trace E C A rid ops fs fs0 fsE T R H) {i t : Nat} : ∀ {j : Nat}, i ≤ j → j ≤ ops.size → (∀ n o, i ≤ n → n < j → ops[n]? = some o → hoisted o = false → o.dst ≠ some t) → ((T j).env.get t) = ((T i).env.get t) := by
  intro j hij
  induction hij with
  | refl => intro _ _; rfl
  | step hij ih =>
    rename_i m
    intro hj h
    obtain ⟨o, ho⟩ := at_op (ops := ops) (i := m) (by omega)
    rw [(tr.env_step ho).2 t (h m o hij (by omega) ho)]
    exact ih (by omega) fun n o h1 h2 => h n o h1 (by omega)

theorem Trace.env_len (tr : Trace E C A rid ops fs fs0 fsE T R H) : ∀ {i : Nat}, i ≤ ops.size → (T i).env.dom fs.env := by
  intro i
  induction i with
  | zero => intro _; rw [tr.zero]; exact tr.len
  | succ i ih =>
    intro h
    obtain ⟨o, ho⟩ := at_op (ops := ops) (i := i) (by omega)
    exact (tr.env_step ho).1.trans (ih (by omega))

theorem Trace.dst_one (tr : Trace E C A rid ops fs fs0 fsE T R H) {i j : Nat} {o p : Oper} {d : Nat} (hi : ops[i]? = some o) (hj : ops[j]? = some p) (h1 : o.dst = some d) (h2 : p.dst = some d) : i = j := by
  rcases ((textOk_spec tr.text (i := i) (o := o) (by simpa using hi)).2 j p d (by simpa using hj) h2).1 with h | h
  · exact h
  · exact (h h1).elim

/-- What stands at the place of an operation that has run. -/
theorem Trace.env_done (tr : Trace E C A rid ops fs fs0 fsE T R H) {i j : Nat} {o : Oper} {d : Nat} (hj : ops[j]? = some o) (hd : o.dst = some d) (hi : i ≤ ops.size) (h : j < i ∨ hoisted o = true) : ((T i).env.get d) = (fsE.env.get d) := by
  rw [← tr.fin]
  refine (tr.env_between hi (Nat.le_refl _) fun n p h1 h2 hp hh hpd => ?_).symm
  have := tr.dst_one hp hj hpd hd
  subst this
  rcases h with h | h
  · omega
  · rw [hj] at hp
    simp only [Option.some.injEq] at hp
    subst hp
    rw [hh] at h; cases h

/-- At all other places all is as it was. -/
theorem Trace.env_rest (tr : Trace E C A rid ops fs fs0 fsE T R H) {i t : Nat} (hi : i ≤ ops.size) (h : ∀ (j : Nat) (o : Oper), ops[j]? = some o → o.dst = some t → i ≤ j ∧ hoisted o = false) : ((T i).env.get t) = (fs.env.get t) := by
  rw [tr.env_between (i := 0) (Nat.zero_le _) hi fun n o h1 h2 ho hh hd => by have := (h n o ho hd).1; omega, tr.zero]
  exact tr.env0 t fun j o hj hh hd => by have := (h j o hj hd).2; rw [hh] at this; cases this

theorem Trace.bound (tr : Trace E C A rid ops fs fs0 fsE T R H) : ∀ (n j : Nat), j + n = ops.size → (T j).nid ≤ bigN ∧ (T j).st.next ≤ bigN := by
  intro n
  induction n with
  | zero => intro j h; rw [show j = ops.size by omega, tr.fin]; exact tr.bnd
  | succ n ih =>
    intro j h
    obtain ⟨o, ho⟩ := at_op (ops := ops) (i := j) (by omega)
    have := tr.at_ j o ho
    unfold AtD at this
    split at this
    · rw [← this.1]; exact ih (j + 1) (by omega)
    · exact ⟨this.1, this.2.1⟩

theorem wantV_congr {env env' : Tr} {ops : List Oper} {o : Oper} (h : ∀ t ∈ looksD ops o, (env.get t) = (env'.get t)) : wantV env ops o = wantV env' ops o := by
  unfold wantV
  cases hg : o.guard with
  | none => rfl
  | some gw =>
    obtain ⟨g, want⟩ := gw
    simp only
    cases hq : ops[g]? with
    | none => rfl
    | some q =>
      simp only
      cases hd : q.dst with
      | none => rfl
      | some d =>
        simp only
        rw [h d]
        simp [looksD, hg, hq, hd]

theorem readsOf_congr {env env' : Tr} {o : Op} (h : ∀ t ∈ tmpsO o, (env.get t) = (env'.get t)) : readsOf env o = readsOf env' o := by
  unfold readsOf
  have : ∀ x ∈ o.operands.toList, (match x with | .tmp t => (match (env.get t) with | some v => refsV v | none => []) | _ => ([] : List Ref)) = match x with | .tmp t => (match (env'.get t) with | some v => refsV v | none => []) | _ => [] := by
    intro x hx
    cases x with
    | tmp t =>
      have : t ∈ tmpsO o := by
        unfold tmpsO
        rw [List.mem_filterMap]
        exact ⟨.tmp t, hx, rfl⟩
      simp only [h t this]
    | _ => rfl
  revert this
  generalize o.operands.toList = l
  intro this
  induction l with
  | nil => rfl
  | cons x r ih =>
    rw [List.flatMap_cons, List.flatMap_cons, ih fun y hy => this y (List.mem_cons_of_mem _ hy)]
    congr 1
    exact this x (by simp)
theorem rdO_congr {env env' : Tr} {o : Op} (h : ∀ t ∈ tmpsO o, (env.get t) = (env'.get t)) : rdO env o = rdO env' o := by
  unfold rdO; rw [readsOf_congr h]
end
end Go.AE

namespace Go.AE
open Go

theorem hoistOk_spec {m : List Nat} {all : List Rec} {env : Tr} : ∀ (rest : List Oper) (i : Nat), hoistOk m all env i rest = true → ∀ (j : Nat) (o : Oper), rest[j]? = some o → hoisted o = true →
    ∃ d r, o.dst = some d ∧ (env.get d) = some (.ptr r 0) ∧ ∀ q ∈ all, apartH m (i + j) r q = true := by
  intro rest
  induction rest with
  | nil => intro i _ j o h; simp at h
  | cons p rest ih =>
    intro i h j o ho hh
    simp only [hoistOk, Bool.and_eq_true] at h
    cases j with
    | zero =>
      simp only [List.getElem?_cons_zero, Option.some.injEq] at ho
      subst ho
      have h1 := h.1
      rw [if_pos hh] at h1
      split at h1
      · rename_i d hd
        split at h1
        · rename_i r hr
          exact ⟨d, r, hd, hr, fun q hq => List.all_eq_true.1 h1 q hq⟩
        · cases h1
      · cases h1
    | succ j =>
      obtain ⟨d, r, h1, h2, h3⟩ := ih (i + 1) h.2 j o (by simpa using ho) hh
      exact ⟨d, r, h1, h2, fun q hq => by rw [show i + (j + 1) = i + 1 + j by omega]; exact h3 q hq⟩

theorem drawV_trace {E : En} {C : CallF} {A : Ann} {rid : Nat} {ops : Array Oper} {fs fsE : FS} (ht : textOk ops.toList = true) (h : drawV E C A rid ops.toList fs = some fsE) :
    ∃ fs0 T R H, hoistV E C A rid 0 ops.toList fs = some fs0 ∧ Trace E C A rid ops fs fs0 fsE T R H := by
  unfold drawV at h
  split at h
  · cases h
  rename_i fs0 hh
  split at h
  · rename_i fs1 L hr
    split at h
    · rename_i hc
      simp only [Option.some.injEq] at h; subst h
      simp only [Bool.and_eq_true, decide_eq_true_eq, List.all_eq_true] at hc
      obtain ⟨⟨⟨hb1, hb2⟩, hrec⟩, hho⟩ := hc
      obtain ⟨T, R, t1, t2, _, t4⟩ := runD_trace ops.toList 0 fs0 fs1 [] L hr
      obtain ⟨i1, i2, i3, i4, H, i5, i6⟩ := hoistV_spec ops.toList 0 fs fs0 hh
      simp only [Nat.zero_add] at t2 t4 i5 i6
      have hat : ∀ (j : Nat) (o : Oper), ops[j]? = some o → AtD E C A rid ops.toList j o (T j) (T (j + 1)) (R j) ∧ ∀ q, R j = some q → q ∈ L := fun j o hj => t4 j o (by simpa using hj)
      have idx : ∀ (j : Nat) (q : Rec), j < ops.size → R j = some q → q ∈ L ∧ ((∃ l, q = .rd j l) ∨ (∃ l nid next, q = .wr j l nid next) ∨ ∃ s s' l, q = .ca j s s' l) := by
        intro j q hj hq
        obtain ⟨o, ho⟩ := at_op hj
        obtain ⟨h1, h2⟩ := hat j o ho
        refine ⟨h2 q hq, ?_⟩
        unfold AtD at h1
        split at h1
        · rw [h1.2] at hq; cases hq
        · rw [hq] at h1
          exact rec_at h1.2.2
      refine ⟨fs0, T, R, H, hh, t1, by simpa using t2, fun j o hj => (hat j o hj).1, ?_, ?_, ?_, ?_, i1, fun t h => i2 t fun j o hj => h j o (by simpa using hj), ⟨hb1, hb2⟩, ht⟩
      · intro i j hi hj ei ej hne
        cases hqi : R i with
        | none => rw [hqi] at ei; simp [isEff] at ei
        | some qi => cases hqj : R j with
          | none => rw [hqj] at ej; simp [isEff] at ej
          | some qj =>
            obtain ⟨m1, c1⟩ := idx i qi hi hqi
            obtain ⟨m2, c2⟩ := idx j qj hj hqj
            rw [hqi] at ei; rw [hqj] at ej
            have h0 := hrec qi m1
            rcases c1 with ⟨l, rfl⟩ | ⟨l, a, b, rfl⟩ | ⟨s, s', l, rfl⟩
            · simp [isEff] at ei
            all_goals
              simp only [recOk, List.all_eq_true] at h0
              have := h0 qj m2
              rcases c2 with ⟨l', rfl⟩ | ⟨l', a', b', rfl⟩ | ⟨t, t', l', rfl⟩
              · simp [isEff] at ej
              all_goals
                simp only [effOrd, Bool.or_eq_true, beq_iff_eq] at this
                exact this.resolve_right hne
      · intro i j l q hi hj hqi hqj eq
        obtain ⟨m1, _⟩ := idx i _ hi hqi
        obtain ⟨m2, c2⟩ := idx j q hj hqj
        have h0 := hrec _ m1
        cases l with
        | nil => exact .inr fun r hr => by simp at hr
        | cons r0 l0 =>
          simp only [recOk, List.all_eq_true] at h0
          have := h0 q m2
          rcases c2 with ⟨l', rfl⟩ | ⟨l', a', b', rfl⟩ | ⟨t, t', l', rfl⟩
          · simp [isEff] at eq
          all_goals
            simp only [same1, Bool.or_eq_true, List.all_eq_true] at this
            exact this
      · intro i o ho hho'
        obtain ⟨h1, h2, h3, h4⟩ := i5 i o (by simpa using ho) hho'
        obtain ⟨d, r, g1, g2, g3⟩ := hoistOk_spec ops.toList 0 hho i o (by simpa using ho) hho'
        simp only [Nat.zero_add] at g3
        have hlen : (fs.env.get d).isSome = true := by rw [← i1 d, g2]; rfl
        have e := h4 d g1 (fun j' o' hlt hj' hd => by
          rcases ((textOk_spec ht (i := i) (o := o) (by simpa using ho)).2 j' o' d hj' hd).1 with e | e
          · omega
          · exact e g1) hlen
        have er : r = H i := by
          rw [g2] at e
          simpa using e
        subst er
        refine ⟨h1, h2, h3, ⟨d, g1, e⟩, fun j q hj hq eq => ?_⟩
        obtain ⟨m2, c2⟩ := idx j q hj hq
        have := g3 q m2
        rcases c2 with ⟨l', rfl⟩ | ⟨l', a', b', rfl⟩ | ⟨t, t', l', rfl⟩
        · simp [isEff] at eq
        all_goals
          simp only [apartH, Bool.or_eq_true, Bool.and_eq_true, decide_eq_true_eq] at this
          exact this
      · intro i j o p hne hi hj ho hp
        rcases Nat.lt_or_gt_of_ne hne with h | h
        · exact i6 i j o p h (by simpa using hi) (by simpa using hj) ho hp
        · exact (i6 j i p o h (by simpa using hj) (by simpa using hi) hp ho).symm
    · cases h
  · cases h
end Go.AE

namespace Go.AE
open Go

theorem Le.reX {base : Nat} {X X' : XR} {w w' : World} {cx cx' : Cx} (h : Le base X w cx w' cx') (hx : X'.b = X.b) : Le base X' w cx w' cx' :=
  ⟨h.size, fun b hb => h.kept b (by rw [hx] at hb; exact hb), h.cells, h.smono, fun b i hs => by rw [hx]; exact h.snew b i hs, h.al, h.blk, h.vec, h.io⟩

theorem FR.weak {k : K} {X X' : XR} {w : World} {cx : Cx} {fs : FS} {a : Act} (fr : FR k X w cx fs a) (hb : X'.b = X.b) (hn : ∀ r, X'.n r → X.n r) : FR k X' w cx fs a :=
  ⟨fr.size, fr.pre, fr.preS, fr.slt, fr.obj, fr.non, fun r b h => by rw [hb]; exact fr.own1 r b h, fr.own2, fun b h => fr.xlt b (by rw [hb] at h; exact h), fr.alL, fr.alG, fr.obL, fr.obG, fr.len, fr.env, fr.defers, fr.gl, fun r h => fr.res r (hn r h)⟩

/-- With the names of hoisted objects whose operations are still to come. -/
def XR.wait (X : XR) (ops : Array Oper) (H : Nat → Ref) (listed : Array Bool) : XR :=
  ⟨X.b, fun r => X.n r ∨ ∃ i o, ops[i]? = some o ∧ hoisted o = true ∧ listed[i]? = some false ∧ r = H i⟩

structure Inv (k : K) (X : XR) (w0 : World) (cx0 : Cx) (ops : Array Oper) (fs fsE : FS) (T : Nat → FS) (R : Nat → Option Rec) (H : Nat → Ref) (listed : Array Bool) (a : Act) (w : World) (cx : Cx) (f : FS) (j : Nat) : Prop where
  fr : FR k (X.wait ops H listed) w cx f a
  le : Le k.base X w0 cx0 w cx
  heap : HeapEq f (T j)
  jn : j ≤ ops.size
  effs : ∀ i, i < ops.size → isEff (R i) = true → (listed[i]? = some true ↔ i < j)
  closed : Closed ops listed
  size : listed.size = ops.size
  len : f.env.dom fs.env
  done : ∀ (i : Nat) (o : Oper) (t : Nat), ops[i]? = some o → o.dst = some t → listed[i]? = some true → (f.env.get t) = (fsE.env.get t)
  rest : ∀ t, (∀ (i : Nat) (o : Oper), ops[i]? = some o → o.dst = some t → listed[i]? = some false) → (f.env.get t) = (fs.env.get t)

section
variable {k : K} {X : XR} {w0 w : World} {cx0 cx : Cx} {ops : Array Oper} {fs fs0 fsE : FS} {T : Nat → FS} {R : Nat → Option Rec} {H : Nat → Ref} {listed : Array Bool} {a : Act} {f : FS} {j : Nat} {C : CallF} {A : Ann} {rid : Nat}

theorem listed_cases (hs : listed.size = ops.size) {i : Nat} (hi : i < ops.size) : listed[i]? = some true ∨ listed[i]? = some false := by
  have : listed[i]? = some listed[i] := by simp [hs, hi]
  rw [this]
  cases listed[i] <;> simp

theorem ord_listed (hc : Closed ops listed) (hs : listed.size = ops.size) {i : Nat} {o : Oper} (ho : ops[i]? = some o) (hf : listed[i]? = some false) (hall : ∀ e ∈ o.after, Region.binds .any e = true → listed[e.on]? = some true) {n : Nat} (hn : n < ops.size) (hne : n ≠ i)
    (h : ordered (befs ops.toList) i n = true) : listed[n]? = some true ↔ n < i := by
  unfold ordered at h
  rcases Nat.lt_or_gt_of_ne hne with hlt | hlt
  · rw [Nat.max_eq_left (by omega), Nat.min_eq_right (by omega)] at h
    exact ⟨fun _ => hlt, fun _ => befs_listed hc i ho h hall⟩
  · rw [Nat.max_eq_right (by omega), Nat.min_eq_left (by omega)] at h
    refine ⟨fun hl => ?_, fun h => by omega⟩
    obtain ⟨p, hp⟩ := at_op hn
    have := befs_listed hc n hp h (hc n p hl hp)
    rw [hf] at this
    simp at this

theorem ordered_comm (m : List Nat) (i j : Nat) : ordered m i j = ordered m j i := by
  unfold ordered
  rw [Nat.max_comm, Nat.min_comm]

/-- What an operation looks at when it runs is what it saw in the trace. -/
theorem Inv.looks (tr : Trace k.E C A rid ops fs fs0 fsE T R H) (inv : Inv k X w0 cx0 ops fs fsE T R H listed a w cx f j) {i : Nat} {o : Oper} (ho : ops[i]? = some o) (hf : listed[i]? = some false)
    (hall : ∀ e ∈ o.after, Region.binds .any e = true → listed[e.on]? = some true) : ∀ t ∈ looksD ops.toList o, (f.env.get t) = ((T i).env.get t) := by
  intro t ht
  have hin := size_of_at ho
  by_cases hex : ∃ (n : Nat) (p : Oper), ops[n]? = some p ∧ p.dst = some t
  · obtain ⟨n, p, hp, hd⟩ := hex
    have hn := size_of_at hp
    rcases ((textOk_spec tr.text (i := i) (o := o) (by simpa using ho)).2 n p t (by simpa using hp) hd).2 ht with ⟨hlt, hord⟩ | ⟨hlt, hord, hh⟩
    · rw [ordered_comm] at hord
      have hl := (ord_listed inv.closed inv.size ho hf hall hn (by omega) hord).2 hlt
      rw [inv.done n p t hp hd hl, tr.env_done hp hd (by omega) (.inl hlt)]
    · have hl : ¬ listed[n]? = some true := fun h => by
        have := (ord_listed inv.closed inv.size ho hf hall hn (by omega) hord).1 h
        omega
      have hlf := (listed_cases inv.size hn).resolve_left hl
      have uniq : ∀ (m : Nat) (q : Oper), ops[m]? = some q → q.dst = some t → m = n ∧ q = p := fun m q hq hqd => by
        have := tr.dst_one hq hp hqd hd
        subst this
        rw [hp] at hq
        simp only [Option.some.injEq] at hq
        exact ⟨rfl, hq.symm⟩
      rw [inv.rest t fun m q hq hqd => by rw [(uniq m q hq hqd).1]; exact hlf, tr.env_rest (by omega) fun m q hq hqd => by
        obtain ⟨rfl, rfl⟩ := uniq m q hq hqd
        exact ⟨by omega, hh⟩]
  · rw [inv.rest t fun n p hp hd => (hex ⟨n, p, hp, hd⟩).elim, tr.env_rest (by omega) fun n p hp hd => (hex ⟨n, p, hp, hd⟩).elim]

theorem set_listed {i : Nat} (hi : i < listed.size) (n : Nat) : (listed.setIfInBounds i true)[n]? = if n = i then some true else listed[n]? := by
  rw [Array.getElem?_setIfInBounds]
  by_cases h : i = n
  · subst h; simp [hi]
  · have : ¬ n = i := fun e => h e.symm
    simp [h, this]

/-- One more is listed: what goes on by itself. -/
theorem Inv.next (tr : Trace k.E C A rid ops fs fs0 fsE T R H) (inv : Inv k X w0 cx0 ops fs fsE T R H listed a w cx f j) {i : Nat} {o : Oper} (ho : ops[i]? = some o) (hf : listed[i]? = some false)
    (hall : ∀ e ∈ o.after, Region.binds .any e = true → listed[e.on]? = some true) {a' : Act} {w' : World} {cx' : Cx} {f' : FS} {j' : Nat}
    (fr : FR k (X.wait ops H (listed.setIfInBounds i true)) w' cx' f' a') (le : Le k.base X w cx w' cx') (heap : HeapEq f' (T j')) (jn : j' ≤ ops.size)
    (effs : ∀ n, n < ops.size → isEff (R n) = true → n ≠ i → (listed[n]? = some true ↔ n < j')) (effi : isEff (R i) = true → i < j')
    (hlen : f'.env.dom f.env) (henv : ∀ t, o.dst ≠ some t → (f'.env.get t) = (f.env.get t)) (hdst : ∀ t, o.dst = some t → (f'.env.get t) = (fsE.env.get t)) :
    Inv k X w0 cx0 ops fs fsE T R H (listed.setIfInBounds i true) a' w' cx' f' j' := by
  have hi : i < listed.size := by rw [inv.size]; exact size_of_at ho
  refine ⟨fr, inv.le.trans le, heap, jn, fun n hn he => ?_, fun n p hl hp e he hb => ?_, by simpa using inv.size, hlen.trans inv.len, fun n p t hp hd hl => ?_, fun t h => ?_⟩
  · rw [set_listed hi]
    by_cases hni : n = i
    · subst hni
      simp only [if_true, true_iff]
      exact effi he
    · simp only [hni, if_false]
      exact effs n hn he hni
  · have hold : listed[e.on]? = some true := by
      rw [set_listed hi] at hl
      by_cases hni : n = i
      · subst hni
        rw [ho] at hp
        simp only [Option.some.injEq] at hp
        subst hp
        exact hall e he hb
      · simp only [hni, if_false] at hl
        exact inv.closed n p hl hp e he hb
    rw [set_listed hi]
    split
    · rfl
    · exact hold
  · rw [set_listed hi] at hl
    by_cases hni : n = i
    · subst hni
      rw [ho] at hp
      simp only [Option.some.injEq] at hp
      subst hp
      exact hdst t hd
    · simp only [hni, if_false] at hl
      rw [henv t fun hd' => hni (tr.dst_one hp ho hd hd'), inv.done n p t hp hd hl]
  · have hd : o.dst ≠ some t := fun hd => by
      have := h i o ho hd
      rw [set_listed hi] at this
      simp at this
    rw [henv t hd]
    refine inv.rest t fun n p hp hpd => ?_
    have := h n p hp hpd
    rw [set_listed hi] at this
    split at this
    · simp at this
    · exact this

theorem wait_mono {i : Nat} (hi : i < listed.size) (r : Ref) (h : (X.wait ops H (listed.setIfInBounds i true)).n r) : (X.wait ops H listed).n r := by
  rcases h with h | ⟨n, p, h1, h2, h3, h4⟩
  · exact .inl h
  · rw [set_listed hi] at h3
    split at h3
    · simp at h3
    · exact .inr ⟨n, p, h1, h2, h3, h4⟩
end
end Go.AE

namespace Go.AE
open Go

section
variable {k : K} {X : XR} {w0 w : World} {cx0 cx : Cx} {ops : Array Oper} {fs fs0 fsE : FS} {T : Nat → FS} {R : Nat → Option Rec} {H : Nat → Ref} {listed : Array Bool} {a : Act} {f : FS} {j : Nat} {C : CallF} {A : Ann} {rid : Nat}

theorem put_at {f g : FS} (h : f.env.dom g.env) (t : Nat) (v : V) : ((f.put (some t) v).env.get t) = ((g.put (some t) v).env.get t) := by
  have := h t
  simp only [FS.put, Tr.get_set, if_true]
  cases h1 : f.env.get t with
  | none => rw [h1] at this; cases h2 : g.env.get t with
    | none => rfl
    | some u => rw [h2] at this; cases this
  | some u => rw [h1] at this; cases h2 : g.env.get t with
    | none => rw [h2] at this; cases this
    | some u' => rfl

theorem put_len (f : FS) (d : Option Nat) (v : V) : (f.put d v).env.dom f.env := by
  cases d with
  | none => exact Tr.dom_refl _
  | some d => exact Tr.dom_set _ _ _

theorem put_ne {f : FS} {d : Option Nat} {v : V} {t : Nat} (h : d ≠ some t) : ((f.put d v).env.get t) = (f.env.get t) := by
  cases d with
  | none => rfl
  | some d =>
    have : d ≠ t := fun e => h (by rw [e])
    simp only [FS.put, Tr.get_set_ne this]

theorem Inv.step (ok : KOk k) (cok : CallsOk k C) (tr : Trace k.E C A rid ops fs fs0 fsE T R H) (hX0 : ∀ r, X.n r → r.old fs) (inv : Inv k X w0 cx0 ops fs fsE T R H listed a w cx f j) {i : Nat} (hi : i ∈ Region.ready .any ops listed) {Q : Exit → Act → World → Prop} :
    wpOp k.E.P ops Q i (fun a w => ∃ cx f j, Inv k X w0 cx0 ops fs fsE T R H (listed.setIfInBounds i true) a w cx f j) a w := by
  obtain ⟨o, ho, hf, hall⟩ := mem_ready hi
  have hin := size_of_at ho
  have hil : i < listed.size := by rw [inv.size]; exact hin
  unfold wpOp
  rw [ho]
  simp only
  by_cases hh : hoisted o = true
  · obtain ⟨⟨t, ti, hop, hT, hob⟩, hnold, hold, ⟨d, hd, hv⟩, hoffs⟩ := tr.hois i o ho hh
    have hg : Region.wanted o (yielded ops a.tmps) = true := by
      unfold Region.wanted
      rw [(hoisted_alloc hh).1]
    rw [hg, if_pos rfl]
    refine .inl ?_
    have hRi : R i = none := by
      have := tr.at_ i o ho
      unfold AtD at this
      rw [if_pos hh] at this
      exact this.2
    have hobj : f.obj (H i) = some (.cells (ti.zero.map .p)) := by
      rw [inv.heap.obj, tr.keep (i := 0) (Nat.zero_le _) inv.jn fun n q _ hn hq he => ?_, tr.zero]
      · exact hob
      · have hns : n < ops.size := by have := inv.jn; omega
        rcases hoffs n q hns hq he with ⟨h1, h2⟩ | h2
        · have hl := (inv.effs n hns (by rw [hq]; exact he)).2 hn
          have := (ord_listed inv.closed inv.size ho hf hall hns (by omega) h2).1 hl
          omega
        · exact h2
    have hnal : ¬ cx.al (H i) := (inv.fr.res (H i) (.inr ⟨i, o, ho, hh, hf, rfl⟩)).1
    have hnx : ¬ (X.wait ops H (listed.setIfInBounds i true)).n (H i) := by
      rintro (h | ⟨n, p, h1, h2, h3, h4⟩)
      · exact hnold (hX0 _ h)
      · rw [set_listed hil] at h3
        split at h3
        · simp at h3
        · rename_i hne
          exact tr.hne i n o p (fun e => hne e.symm) ho h1 hh h2 h4
    have fr1 := inv.fr.weak (X' := X.wait ops H (listed.setIfInBounds i true)) rfl (wait_mono hil)
    obtain ⟨z, z1, z2, z3, z4⟩ := zero_CR (ok.ty t ti hT)
    have hs : w.heap.size ≤ (w.alloc (.cells ⟨z.cells.toList⟩ t (0, 0))).heap.size := by rw [alloc_size]; omega
    have hk := fun b (hb : b < w.heap.size) => alloc_old w (.cells ⟨z.cells.toList⟩ t (0, 0)) hb
    have hrun : (execOp a.eval o).run k.E.P w = .ok (.value (.pointer (some ⟨w.heap.size, 0, none⟩))) (w.alloc (.cells ⟨z.cells.toList⟩ t (0, 0))) := by
      unfold execOp
      simp only [hop]
      unfold Instr.alloc
      simp only [Sem.run_bind, z1, Result.andThen_ok]
      rfl
    have le := le_newBlk (b := w.heap.size) fr1 hnal hs hk ⟨rfl, rfl⟩
    have hhole : f.obj (H i) = some (.cells (ti.zero.map .p)) → (H i).fits f := by
      intro h
      cases hr : H i with
      | loc id => rw [hr] at h; exact inv.fr.obL id _ h
      | glob n => rw [hr] at h; exact inv.fr.obG n _ h
    have fr2 : FR k (X.wait ops H (listed.setIfInBounds i true)) (w.alloc (.cells ⟨z.cells.toList⟩ t (0, 0))) (cx.newBlk (H i) w.heap.size) f a := by
      refine fr1.upd (H i) (.cells (ti.zero.map .p)) le (fun r hr => ⟨by simp [Cx.newBlk, hr], rfl⟩) (fun r => Iff.rfl) (fun r => ?_) (Nat.le_refl _) (Nat.le_refl _) rfl (hhole hobj) hnx (fun b hb _ => ⟨hk b hb, fun i => Iff.rfl⟩)
        (fun b i hS => Nat.lt_of_lt_of_le (fr1.slt b i hS) hs) (fun b' hb' => ?_) ?_ (fun n _ => by simp [globO, List.all_map, Function.comp_def, glob1])
      · split
        · rename_i e; rw [e]; exact hobj
        · rfl
      · have : b' = w.heap.size := by simpa [Cx.own, Cx.newBlk] using hb'.symm
        subst this
        exact ⟨fr1.size, by rw [alloc_size]; omega, fun hx => Nat.lt_irrefl _ (fr1.xlt _ hx), .inr (Nat.le_refl _)⟩
      · have h' := (z4 k w cx).mono le
        exact ⟨(fr1.non _ hnal).2, w.heap.size, t, z.cells.toList, by simp [Cx.newBlk], alloc_new w _, (z4 k w cx).1, (z4 k w cx).2.1, h'.2.2, fun i hS => Nat.lt_irrefl _ (fr1.slt _ i hS)⟩
    unfold Oper.wp
    rw [hrun, Oper.upon_value]
    refine ⟨cx.newBlk (H i) w.heap.size, f.put o.dst (.ptr (H i) 0), j, inv.next tr ho hf hall (fr2.put ?_ o.dst) (le.reX rfl) ((put_heap _ _ _).trans inv.heap) inv.jn (fun n hn he _ => inv.effs n hn he) ?_ (put_len _ _ _) (fun t ht => put_ne ht) ?_⟩
    · refine .ptr _ _ _ (.inr rfl) fun b' hb' => ?_
      have : w.heap.size = b' := by simpa [Cx.newBlk] using hb'
      rw [this]
    · intro he; rw [hRi] at he; simp [isEff] at he
    · intro t' ht'
      have e : t' = d := by rw [hd] at ht'; simpa using ht'.symm
      subst e
      have hlen : (f.env.get t').isSome = true := by
        rw [inv.len t', ← tr.len t', hv]; rfl
      rw [← tr.env_done (i := 0) ho hd (Nat.zero_le _) (.inr hh), tr.zero, hv, hd]
      simp only [FS.put, Tr.get_set, if_true]
      cases hg : f.env.get t' with
      | none => rw [hg] at hlen; cases hlen
      | some u => rfl
  · have hat := tr.at_ i o ho
    unfold AtD at hat
    rw [if_neg hh] at hat
    obtain ⟨hb1, hb2, hs⟩ := hat
    have looks := inv.looks tr ho hf hall
    have hwant : wantV f.env ops.toList o = wantV (T i).env ops.toList o := wantV_congr looks
    have hlenT : f.env.dom (T i).env := inv.len.trans (tr.env_len (by omega)).symm
    have ltmps : ∀ t ∈ tmpsO o.op, (f.env.get t) = ((T i).env.get t) := fun t ht => looks t (by unfold looksD; exact List.mem_append_left _ ht)
    have hfin : ∀ t, o.dst = some t → ((T (i + 1)).env.get t) = (fsE.env.get t) := fun t ht => tr.env_done ho ht (by omega) (.inl (by omega))
    rcases stepD_cases hs with ⟨hw, h2, h3⟩ | ⟨hw, hq, hoffs, v, hqv, h2, h3⟩ | ⟨hw, hq, hz, v, fs2, he, h2, h3⟩
    · rw [want_sound inv.fr (hwant.trans hw)]
      simp only [Bool.false_eq_true, if_false]
      have fr1 := inv.fr.weak (X' := X.wait ops H (listed.setIfInBounds i true)) rfl (wait_mono hil)
      refine ⟨cx, f.put o.dst undefV, j, inv.next tr ho hf hall (fr1.put (.p _ _ (.tuple [] [] rfl (by simp))) o.dst) (Le.refl _ _ _ _) ((put_heap _ _ _).trans inv.heap) inv.jn (fun n hn he _ => inv.effs n hn he) ?_ (put_len _ _ _) (fun t ht => put_ne ht) fun t ht => ?_⟩
      · intro he; rw [h3] at he; simp [isEff] at he
      · rw [← hfin t ht, h2, ht]
        exact put_at hlenT t _
    · rw [want_sound inv.fr (hwant.trans hw), if_pos rfl]
      refine .inl ?_
      obtain ⟨n1, n2⟩ := tr.bound (ops.size - j) j (by have := inv.jn; omega)
      have hrd : rdO f.env o.op = rdO (T i).env o.op := rdO_congr ltmps
      have hobj : ∀ r ∈ rdO (T i).env o.op, f.obj r = (T i).obj r := by
        intro r hr
        rw [inv.heap.obj]
        have main : ∀ n q, n < ops.size → R n = some q → isEff (some q) = true → (listed[n]? = some true ↔ n < i) ∨ offR r q = true := by
          intro n q hn hqn hen
          rcases tr.reads i n _ q hin hn h3 hqn hen with h | h
          · have hne : n ≠ i := by
              intro e; subst e
              rw [h3] at hqn
              simp only [Option.some.injEq] at hqn
              subst hqn
              simp [isEff] at hen
            exact .inl (ord_listed inv.closed inv.size ho hf hall hn hne h)
          · exact .inr (h r hr)
        rcases Nat.le_total j i with hji | hji
        · refine (tr.keep hji (by omega) fun n q h1 h2 hqn hen => ?_).symm
          rcases main n q (by omega) hqn hen with h | h
          · have := (inv.effs n (by omega) (by rw [hqn]; exact hen)).1 (h.2 h2)
            omega
          · exact h
        · refine tr.keep hji inv.jn fun n q h1 h2 hqn hen => ?_
          have hns : n < ops.size := by have := inv.jn; omega
          rcases main n q hns hqn hen with h | h
          · have := h.1 ((inv.effs n hns (by rw [hqn]; exact hen)).2 h2)
            omega
          · exact h
      have hmask : maskQ (tmpsO o.op) (rdO (T i).env o.op) f = maskQ (tmpsO o.op) (rdO (T i).env o.op) (T i) := maskQ_congr hlenT ltmps hobj
      rw [← hmask] at hqv
      obtain ⟨c, w', r1, r2, r3, rio, r4⟩ := quiet_sound ok (inv.fr.mask (tmpsO o.op) (rdO (T i).env o.op) (by rw [inv.heap.2.1]; exact n1) (by rw [inv.heap.2.2]; exact n2)) hqv
      have fr1 := (inv.fr.ext r2 r3 rio).weak (X' := X.wait ops H (listed.setIfInBounds i true)) rfl (wait_mono hil)
      unfold Oper.wp
      rw [r1, Oper.upon_value]
      refine ⟨_, f.put o.dst v, j, inv.next tr ho hf hall (fr1.put r4 o.dst) ((inv.fr.le_ext r2 r3 rio).reX rfl) ((put_heap _ _ _).trans inv.heap) inv.jn (fun n hn he _ => inv.effs n hn he) ?_ (put_len _ _ _) (fun t ht => put_ne ht) fun t ht => ?_⟩
      · intro he; rw [h3] at he; simp [isEff] at he
      · rw [← hfin t ht, h2, ht]
        exact put_at hlenT t _
    · rw [want_sound inv.fr (hwant.trans hw), if_pos rfl]
      refine .inl ?_
      have hei : isEff (R i) = true := by rw [h3]; split <;> rfl
      have heff : ∀ n, n < ops.size → isEff (R n) = true → n ≠ i → (listed[n]? = some true ↔ n < i) := fun n hn he hne =>
        ord_listed inv.closed inv.size ho hf hall hn hne (tr.ords i n hin hn hei he (fun e => hne e.symm))
      have hji : j ≤ i := by
        refine Nat.le_of_not_lt fun h => ?_
        have := (inv.effs i hin hei).2 h
        rw [hf] at this
        simp at this
      have hheap : HeapEq f (T i) := inv.heap.trans (tr.same hji (by omega) fun n h1 h2 => by
        cases hen : isEff (R n) with
        | false => rfl
        | true =>
          have := (inv.effs n (by omega) hen).1 ((heff n (by omega) hen (by omega)).2 h2)
          omega)
      have hmask : ({ f with env := maskE (tmpsO o.op) f.env } : FS) = { T i with env := maskE (tmpsO o.op) (T i).env } := by
        have e1 := maskE_congr hlenT ltmps
        obtain ⟨g1, g2, g3⟩ := hheap
        rw [e1]
        obtain ⟨env, locs, nid, st⟩ := f
        generalize T i = ft at g1 g2 g3
        obtain ⟨env', locs', nid', st'⟩ := ft
        simp only at g1 g2 g3
        subst g1; subst g2; subst g3
        rfl
      rw [← hmask] at he
      have hopV : opV k.E C { f with env := maskE (tmpsO o.op) f.env } A rid i o.op = some (v, fs2) := by
        rw [opV_eq]
        rw [hq]
        exact he
      refine op_sound ok cok (inv.fr.maskEnv (tmpsO o.op)) hopV fun c w' cx' f1 l1 v1 => ?_
      have hdomE : f.env.dom fs2.env := by
        have e2 := eV_env hz he
        rw [e2]
        exact (maskE_spec _ _).1.symm
      have f2 := f1.reenv (env := f.env) hdomE fun i v c hv hc => (inv.fr.env i v c hv hc).mono l1
      have f3 := f2.weak (X' := X.wait ops H (listed.setIfInBounds i true)) rfl (wait_mono hil)
      refine ⟨cx', FS.put { fs2 with env := f.env } o.dst v, i + 1, inv.next tr ho hf hall (f3.put v1 o.dst) (l1.reX rfl) ?_ (by omega) (fun n hn hen hne => ?_) (fun _ => Nat.lt_succ_self _) (put_len _ _ _) (fun t ht => put_ne ht) fun t ht => ?_⟩
      · rw [h2]
        have e1 : HeapEq { fs2 with env := f.env } { fs2 with env := (T i).env } := ⟨rfl, rfl, rfl⟩
        exact (put_heap _ _ _).trans (e1.trans (put_heap _ _ _).symm)
      · rw [heff n hn hen hne]
        omega
      · rw [← hfin t ht, h2, ht]
        exact put_at hlenT t _

theorem Inv.all (tr : Trace k.E C A rid ops fs fs0 fsE T R H) (inv : Inv k X w0 cx0 ops fs fsE T R H listed a w cx f j) (hr : Region.ready .any ops listed = []) : f = fsE := by
  have hl : ∀ i, i < ops.size → listed[i]? = some true := by
    intro i
    induction i using Nat.strongRecOn with
    | _ i ih =>
      intro hi
      refine (listed_cases inv.size hi).resolve_right fun hf => ?_
      obtain ⟨o, ho⟩ := at_op hi
      have hm : i ∈ Region.ready .any ops listed := by
        unfold Region.ready
        simp only [List.mem_filter, List.mem_range, Bool.and_eq_true, Bool.not_eq_true']
        refine ⟨hi, by simp [Array.getD_eq_getD_getElem?, hf], ?_⟩
        rw [ho]
        simp only [Option.map_some, Option.getD_some, Array.all_eq_true']
        intro e he
        cases hb : Region.binds .any e with
        | false => simp
        | true =>
          have hlt := (textOk_spec tr.text (i := i) (o := o) (by simpa using ho)).1 e he hb
          have := ih e.on hlt (by omega)
          simp [Array.getD_eq_getD_getElem?, this]
      rw [hr] at hm
      simp at hm
  have henv : f.env = fsE.env := by
    apply Tr.ext
    intro t
    by_cases hex : ∃ (n : Nat) (p : Oper), ops[n]? = some p ∧ p.dst = some t
    · obtain ⟨n, p, hp, hd⟩ := hex
      exact inv.done n p t hp hd (hl n (size_of_at hp))
    · rw [inv.rest t fun n p hp hd => (hex ⟨n, p, hp, hd⟩).elim, ← tr.fin, tr.env_rest (Nat.le_refl _) fun n p hp hd => (hex ⟨n, p, hp, hd⟩).elim]
  have hheap : HeapEq f fsE := by
    rw [← tr.fin]
    refine inv.heap.trans (tr.same inv.jn (Nat.le_refl _) fun n h1 h2 => ?_)
    cases he : isEff (R n) with
    | false => rfl
    | true =>
      have := (inv.effs n h2 he).1 (hl n h2)
      omega
  obtain ⟨g1, g2, g3⟩ := hheap
  obtain ⟨env, locs, nid, st⟩ := f
  obtain ⟨env', locs', nid', st'⟩ := fsE
  simp only at g1 g2 g3 henv
  subst g1; subst g2; subst g3; subst henv
  rfl

theorem draw_sound (ok : KOk k) (hm : k.E.P.follows .mixedOrders = true) (cok : CallsOk k C) : DrawOk k C A := by
  intro id ops X w cx fs a fsE Q ht fr h hQ
  obtain ⟨fs0, T, R, H, hh, tr⟩ := drawV_trace ht h
  have hX0 : ∀ r, X.n r → r.old fs := fun r hr => (fr.res r hr).2
  obtain ⟨i1, i2, i3, i4, _⟩ := hoistV_spec ops.toList 0 fs fs0 hh
  refine wp_region_any hm ?_
  refine wpAny_inv (I := fun listed a' w' => ∃ cx' f j, Inv k X { w with drawn := w.drawn + 1 } cx ops fs fsE T R H listed a' w' cx' f j) ?_ ?_ ops.size (Array.replicate ops.size false) a { w with drawn := w.drawn + 1 } ?_ ?_
  · rintro listed a' w' i ⟨cx', f, j, inv⟩ hi
    exact inv.step ok cok tr hX0 hi
  · rintro listed a' w' ⟨cx', f, j, inv⟩ hr
    have e := inv.all tr hr
    subst e
    refine hQ a' w' cx' (inv.fr.weak rfl fun r h => .inl h) ?_
    have hs := fr.same (w' := { w with drawn := w.drawn + 1 }) rfl ⟨rfl, rfl⟩
    exact (hs.2.trans inv.le).globs
  · unfold left
    have := List.countP_le_length (p := fun b => !b) (l := (Array.replicate ops.size false).toList)
    simpa using this
  · have hs := (fr.same (w' := { w with drawn := w.drawn + 1 }) rfl ⟨rfl, rfl⟩).1
    have f0 : FR k X { w with drawn := w.drawn + 1 } cx { fs0 with env := fs.env } a := i4 k X _ cx a fs.env hs
    have f1 : FR k (X.wait ops H (Array.replicate ops.size false)) { w with drawn := w.drawn + 1 } cx { fs0 with env := fs.env } a := by
      refine ⟨f0.size, f0.pre, f0.preS, f0.slt, f0.obj, f0.non, f0.own1, f0.own2, f0.xlt, f0.alL, f0.alG, f0.obL, f0.obG, f0.len, f0.env, f0.defers, f0.gl, ?_⟩
      rintro r (hr | ⟨i, o, ho, hh, _, rfl⟩)
      · exact f0.res r hr
      · obtain ⟨_, h2, h3, _⟩ := tr.hois i o ho hh
        refine ⟨fun hal => h2 ?_, by cases hHi : H i <;> rw [hHi] at h3 <;> exact h3⟩
        cases hHi : H i with
        | loc id => rw [hHi] at hal; exact fr.alL id hal
        | glob n => rw [hHi] at hal; exact fr.alG n hal
    refine ⟨cx, { fs0 with env := fs.env }, 0, f1, Le.refl _ _ _ _, by rw [tr.zero]; exact ⟨rfl, rfl, rfl⟩, Nat.zero_le _, fun i hi _ => ?_, fun i o hl => ?_, by simp, Tr.dom_refl _, fun i o t ho _ hl => ?_, fun t _ => rfl⟩
    · simp [Array.getElem?_replicate, hi]
    · rw [Array.getElem?_replicate] at hl
      split at hl <;> simp at hl
    · rw [Array.getElem?_replicate] at hl
      split at hl <;> simp at hl
end
end Go.AE

namespace Go.AE
open Go

/-- What is asked of the program and of the summaries. -/
structure Ok (k : K) : Prop where
  base : KOk k
  name : ∀ (f : Nat) (fn : Func), k.E.P.funcs[f]? = some fn → (fn.name == "runtime.NumGoroutine") = false
  text : ∀ (f : Nat) (fn : Func) (b : Code), k.E.P.funcs[f]? = some fn → fn.body = some b → codeOk b = true
  mixed : k.E.P.follows .mixedOrders = true
  summ : ∀ f s, k.E.summ f = some s → ∀ vs st v st', s vs st = some (v, st') → ∀ (X : XR) (w : World) (cx : Cx) (cs : List Value), FR k X w cx (fsG st) actG → AR k w cx vs cs →
    ((callFunc f ⟨cs⟩).run k.E.P w = .ok (.enter f ⟨cs⟩) w ∧ Calls k.E.P f ⟨cs⟩ w fun e w' => ∃ c, e = .returned c ∧ Post k X w cx v st' c w') ∨
    ∃ c w', (callFunc f ⟨cs⟩).run k.E.P w = .ok (.value c) w' ∧ Post k X w cx v st' c w'

theorem callN_ok {k : K} (ok : Ok k) (n : Nat) : CallsOk k (callN k.E n) :=
  callN_sound ⟨ok.base, ok.name, ok.summ, fun _ cok _ => draw_sound ok.base ok.mixed cok, ok.text⟩ n

end Go.AE
