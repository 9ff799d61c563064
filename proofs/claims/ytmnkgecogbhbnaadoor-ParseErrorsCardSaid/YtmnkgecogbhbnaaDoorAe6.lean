/-
AE, part Fr: from a statement's frame to the evaluator and back.
AE, part Fs: the listed variables: sentinels.
AE, part Fu: a run, cut ahead of a region.
AE, part Fw: numbers.
AE, part Fx: the evaluator of a program, by tables.
AE, part Fy: summaries that the evaluator itself pays.
-/
import Derived.Test.YtmnkgecogbhbnaaDoorAe5
import Derived.ChangeSlices
import Derived.RowKit
import Derived.LaidLaws
import Derived.LaidEql
import Derived.MakeChecks
import Derived.OpenShut
import Derived.Laws.BitsLemmas
namespace Go.AE
open Go Go.ChangeShapes Go.WideShapes

/-- Memory as the call finds it. -/
def cxW (W : World) : Cx := { S := fun b _ => b < W.heap.size, blk := fun _ => none, vec := fun _ => none, al := fun _ => False }
def st0 : St := { objs := fun _ => none, next := 0 }
def x0 : XR := ⟨fun _ => False, fun _ => False⟩

theorem start_FR {k : K} {W : World} (hw : k.w0 = W) (hb : k.base = W.heap.size) : FR k x0 W (cxW W) (fsG st0) actG := by
  subst hw
  refine ⟨by rw [hb]; exact Nat.le_refl _, fun _ _ => rfl, fun b h _ => by rw [hb] at h; exact h, fun _ _ h => h, fun r o h => ?_, fun _ _ => ⟨rfl, rfl⟩, fun r b h => ?_, fun r r' b h => ?_, fun _ h => h.elim, fun _ h => h.elim, fun _ h => h.elim, fun id o h => ?_, fun n o h => ?_, fun i v h => (by cases h), fun i v c h => ?_, rfl, fun n o h => ?_, fun _ h => h.elim⟩
  · cases r <;> simp [fsG, FS.obj, lkp, st0] at h
  · simp [Cx.own, cxW] at h
  · simp [Cx.own, cxW] at h
  · simp [fsG, FS.obj, lkp] at h
  · simp [fsG, FS.obj, st0] at h
  · cases h
  · simp [fsG, FS.obj, st0] at h

/-- An argument, opened. -/
structure ArgOpen {H : Type} (enc : TypeId × Value → H) (P : Program) (W : World) (T : TypeId) (v : Value) (d : DataW H) (p : List MemPlace) (x : V) : Prop where
  rep : ∀ sg, VR sg W (cxW W) x v
  back : ∀ W' : World, (∀ b, b < W.heap.size → W'.heap[b]? = W.heap[b]?) → ∀ sp : Nat → Bool, (∀ q ∈ p, sp q.block = true) → DataW.Trod enc P W' 0 sp true T v d p

inductive ArgsOpen {H : Type} (enc : TypeId × Value → H) (P : Program) (W : World) : List TypeId → List Value → List (DataW H) → List MemPlace → List V → Prop
  | nil : ArgsOpen enc P W [] [] [] [] []
  | cons {T : TypeId} {v : Value} {d : DataW H} {p : List MemPlace} {x : V} {Ts : List TypeId} {vs : List Value} {ds : List (DataW H)} {q : List MemPlace} {xs : List V} (h : ArgOpen enc P W T v d p x) (t : ArgsOpen enc P W Ts vs ds q xs) :
      ArgsOpen enc P W (T :: Ts) (v :: vs) (d :: ds) (p ++ q) (x :: xs)

section
variable {H : Type} {enc : TypeId × Value → H} {P : Program} {W : World} {Ts : List TypeId} {vs : List Value} {ds : List (DataW H)} {ps : List MemPlace} {xs : List V}

theorem ArgsOpen.back (h : ArgsOpen enc P W Ts vs ds ps xs) {W' : World} (hk : ∀ b, b < W.heap.size → W'.heap[b]? = W.heap[b]?) {sp : Nat → Bool} : (∀ q ∈ ps, sp q.block = true) → DataW.TrodAll enc P W' 0 sp true Ts vs ds ps := by
  induction h with
  | nil => intro _; rfl
  | cons h _ ih => exact fun hs => ⟨_, _, h.back W' hk sp fun q hq => hs q (List.mem_append_left _ hq), ih fun q hq => hs q (List.mem_append_right _ hq), rfl⟩

theorem ArgsOpen.ar (h : ArgsOpen enc P W Ts vs ds ps xs) (k : K) : AR k W (cxW W) xs vs := by
  induction h with
  | nil => exact ⟨rfl, by simp⟩
  | cons h _ ih =>
    refine ⟨by simp [ih.1], fun i v c hv hc => ?_⟩
    cases i with
    | zero =>
      simp only [List.getElem?_cons_zero, Option.some.injEq] at hv hc
      subst hv; subst hc
      exact h.rep k.sg
    | succ i => exact ih.2 i v c (by simpa using hv) (by simpa using hc)

theorem keptBut_of {W' : World} (hk : ∀ b, b < W.heap.size → W'.heap[b]? = W.heap[b]?) (io : IO W W') (may : MemPlace → Prop) : W.keptBut W' may := by
  refine ⟨io.1, io.2, fun i hi => ?_⟩
  rw [hk i hi]
  cases h : W.heap[i]? with
  | none => rfl
  | some o =>
    cases o with
    | cells c t fr => exact ⟨rfl, rfl, rfl, fun _ _ => rfl⟩
    | map es ck => exact .inr ⟨rfl, rfl⟩
    | _ => rfl

/-- A law's contract: it answers true and leaves its arguments as they were. -/
theorem law_contract {k : K} {f : FuncId} {fn : Func} {body : Code} {s : ChangeSpec} {n : Nat} {st' : St} {tb : TypeId} (hw : k.w0 = W) (hb : k.base = W.heap.size) (hP : k.E.P = P) (ok : Ok k)
    (hf : P.funcs[f]? = some fn) (hbody : fn.body = some body) (hts : fn.params.toList = Ts) (hres : fn.resultTypes = #[tb]) (htb : P.underlying tb = some .bool)
    {args : Array Value} (hargs : args.toList = vs) (hopen : ArgsOpen enc P W Ts vs ds ps xs) (hvars : s.vars = []) (hfn : s.fn H ds = { results := [.lit (.bool true)], args := ds })
    (hW : DataW.Whole enc P Ts [] false W vs ds [] ps) (hrun : callN k.E n f xs st0 = some (.p (.bool true), st')) :
    Calls P f args W fun e W' => ∃ v, e = .returned v ∧ s.post enc P fn false true false false W args v W' := by
  have hname := ok.name f fn (by rw [hP]; exact hf)
  have main : ∀ (c : Value) (W' : World), Post k x0 W (cxW W) (.p (.bool true)) st' c W' → s.post enc P fn false true false false W args c W' := by
    rintro c W' ⟨cx', fr', le, hv⟩
    cases hv with | p _ _ hv =>
    cases hv
    have hk : ∀ b, b < W.heap.size → W'.heap[b]? = W.heap[b]? := fun b hlt => le.kept b (.inl (by rw [hb]; exact hlt))
    have hcv : (Value.bool true).resultList fn.resultTypes.size = [.bool true] := by rw [hres]; rfl
    refine ⟨ds, [], ps, [], ps, [], by rw [hts, hvars, hargs]; exact hW, ?_, ?_, ?_, keptBut_of hk le.io _, fun h => by cases h⟩
    · rw [List.append_nil, hfn, hres]
      exact ⟨[], [], ⟨1, by simp [DataW.trod, Value.cells, htb]⟩, rfl, rfl⟩
    · rw [List.append_nil, hfn, hts, hargs]
      refine hopen.back hk fun q hq => ?_
      have := hW.lt q hq
      simpa using this
    · rw [List.append_nil, hfn, hvars]
      rfl
  subst hP
  have har := hopen.ar k
  rcases callN_ok ok n f xs st0 _ _ hrun x0 W (cxW W) vs (start_FR hw hb) har with ⟨_, h2⟩ | ⟨c, w', h1, _⟩
  · have e : args = ⟨vs⟩ := by rw [← hargs]
    rw [e] at main ⊢
    refine h2.mono fun e W' ⟨c, he, hp⟩ => ⟨c, he, main c W' hp⟩
  · rw [callFunc_enter hf hname hbody] at h1
    simp at h1
end

section
variable {H : Type} {enc : TypeId × Value → H} {P : Program} {W : World}

theorem int_open {r : Reach} {b0 : Nat} {t : TypeId} {kd : IntKind} {v : Value} {d : DataW H} {p : List MemPlace} (ht : P.underlying t = some (.int kd)) (hval : Value.okWide P W r b0 t v) (hd : DataW.Trod enc P W 0 (fun _ => true) true t v d p) :
    ∃ n : Int, (Lit.int kd n).wf = true ∧ ArgOpen enc P W t v d p (.p (.int kd n)) := by
  obtain ⟨n, rfl, rfl, rfl, hw⟩ := open_int ht hval hd
  exact ⟨n, hw, fun sg => .p _ _ (.int kd n), fun W' _ sp _ => shut_int ht hw⟩
end
end Go.AE

namespace Go.AE
open Go Go.ChangeShapes Go.WideShapes

noncomputable def find {α : Type} (k : Nat) (l : List (Nat × α)) : Option α := List.rec none (fun q _ ih => match Nat.beq q.1 k with | true => some q.2 | false => ih) l
theorem find_cons {α : Type} (k : Nat) (q : Nat × α) (r : List (Nat × α)) : find k (q :: r) = match Nat.beq q.1 k with | true => some q.2 | false => find k r := rfl

theorem find_mem {α : Type} {k : Nat} {x : α} : ∀ {l : List (Nat × α)}, find k l = some x → (k, x) ∈ l := by
  intro l
  induction l with
  | nil => intro h; cases h
  | cons q r ih =>
    obtain ⟨a, y⟩ := q
    intro h
    rw [find_cons] at h
    split at h
    · rename_i e
      have e' := Nat.eq_of_beq_eq_true e
      simp only [Option.some.injEq] at h
      simp only at e'
      subst e'; subst h
      simp
    · exact List.mem_cons_of_mem _ (ih h)

theorem laidVars_mem {P : Program} {W : World} : ∀ {laid : List (String × DataW Unit)} {ps : List MemPlace}, DataW.LaidVars P W laid ps → ∀ {n : String} {d : DataW Unit}, (n, d) ∈ laid →
    ∃ g t cs fuel p, P.globalNamed n = some g ∧ (P.globals[g]?).map (·.type) = some t ∧ W.var? P n = some cs ∧ DataW.trod (fun _ => ()) P W 0 (fun _ => true) false fuel t cs.toList = some (d, p) ∧
      (∀ q ∈ MemPlace.row ⟨g, 0, none⟩ cs.size, q ∈ ps) ∧ ∀ q ∈ p, q ∈ ps := by
  intro laid
  induction laid with
  | nil => intro ps _ n d h; simp at h
  | cons x r ih =>
    obtain ⟨m, e⟩ := x
    intro ps h n d hm
    obtain ⟨g, t, cs, fuel, p, q, h1, h2, h3, h4, h5, rfl⟩ := h
    rcases List.mem_cons.1 hm with e1 | hm
    · simp only [Prod.mk.injEq] at e1
      obtain ⟨rfl, rfl⟩ := e1
      exact ⟨g, t, cs, fuel, p, h1, h2, h3, h4, fun y hy => by simp [hy], fun y hy => by simp [hy]⟩
    · obtain ⟨g', t', cs', fuel', p', g1, g2, g3, g4, g5, g6⟩ := ih h5 hm
      exact ⟨g', t', cs', fuel', p', g1, g2, g3, g4, fun y hy => List.mem_append_right _ (g5 y hy), fun y hy => List.mem_append_right _ (g6 y hy)⟩

/-- Where the sentinels lie: number, text. -/
def Sents (W : World) (tp : Nat) (L : List (Nat × List UInt8)) : Prop := ∀ q ∈ L, ∃ a s, W.cell? ⟨q.1, 0, none⟩ = some (.iface tp (.pointer (some a))) ∧ W.cell? a = some (.string s) ∧ s.data.toList = q.2 ∧ ∃ c t, W.heap[a.block]? = some (.cells c t (0, 0))

/-- A listed sentinel's datum. -/
def sentD (text : List UInt8) : DataW Unit := .iface "*errors.errorString" (.ptr (.agg [.lit (.string text)]))

theorem sents_of_laid {P : Program} {W : World} {laid : List (String × DataW Unit)} {ti tp te ts : TypeId} {ms : Array (String × TypeId)} {f : Field} {L : List (String × Nat × List UInt8)}
    (h : laidMetH P laid W) (hplain : (laid.all fun x => x.2.handleName?.isNone) = true) (hi : P.underlying ti = some (.interface ms)) (hrow : ∀ u, P.typeName? 3 u = some "*errors.errorString" → u = tp)
    (hp : P.underlying tp = some (.pointer te)) (he : P.underlying te = some (.struct #[f])) (hft : f.type = ts) (hfo : f.offset = 0) (hs : P.underlying ts = some .string) (hc : P.cellsOf te = 1) (hcs : P.cellsOf ts = 1)
    (hn : L.map (fun q => P.globalNamed q.1) = L.map fun q => some q.2.1) (ht : L.map (fun q => (P.globals[q.2.1]?).map (·.type)) = L.map fun _ => some ti) {j k : Nat} (hin0 : L.map (fun q => (q.1, sentD q.2.2)) = (laid.drop j).take k) :
    Sents W tp (L.map (·.2)) := by
  have hin : ∀ q ∈ L, (q.1, sentD q.2.2) ∈ laid := fun q hq => List.mem_of_mem_drop (List.mem_of_mem_take (hin0 ▸ List.mem_map_of_mem hq))
  rw [MakeChecks.laidMetH_plain _ _ _ hplain] at h
  obtain ⟨ps, hv, _, hcell⟩ := h
  intro q hq
  obtain ⟨x, hx, rfl⟩ := List.mem_map.1 hq
  obtain ⟨g, t, cs, fuel, p, h1, h2, h3, h4, h5, h6⟩ := laidVars_mem hv (hin x hx)
  have e1 : P.globalNamed x.1 = some x.2.1 := List.map_inj_left.1 hn x hx
  have e2 : (P.globals[x.2.1]?).map (·.type) = some ti := List.map_inj_left.1 ht x hx
  rw [h1] at e1
  simp only [Option.some.injEq] at e1
  subst e1
  rw [h2] at e2
  simp only [Option.some.injEq] at e2
  subst e2
  have hv0 := fun i => World.var?_cell h1 h3 i
  obtain ⟨a, s, hcs', hca, hst, _, hp'⟩ := errorString_of_trod hi hrow hp he hft hfo hs hc hcs h4 fun u v e => by
    have hc0 := hv0 0
    have h0 : cs[0]? = some (.iface u v) := by rw [← Array.getElem?_toList, e]; rfl
    rw [h0] at hc0
    exact (hcell x.2.1 0 (h5 _ (by
      have : cs.size = 1 := by rw [← Array.length_toList, e]; rfl
      simp [MemPlace.row, this]))).2 u v hc0
  have hc0 := hv0 0
  have h0 : cs[0]? = some (.iface tp (.pointer (some a))) := by rw [← Array.getElem?_toList, hcs']; rfl
  rw [h0] at hc0
  refine ⟨a, s, hc0, hca, hst, (hcell a.block a.off (h6 _ (by rw [hp']; simp [MemPlace.row]))).1⟩

/-- The sentinels' addresses. -/
noncomputable def sgOf (L : List (Nat × List UInt8)) (W : World) (i : Nat) : Option Addr := match find i L with
  | some _ => (match W.cell? ⟨i, 0, none⟩ with
    | some (.iface _ (.pointer (some a))) => some a
    | _ => none)
  | none => none

theorem sg_at {W : World} {tp : Nat} {L : List (Nat × List UInt8)} (h : Sents W tp L) {i : Nat} {a : Addr} (hs : sgOf L W i = some a) : ∃ text s, (i, text) ∈ L ∧ W.cell? ⟨i, 0, none⟩ = some (.iface tp (.pointer (some a))) ∧ W.cell? a = some (.string s) ∧ s.data.toList = text ∧ ∃ c t, W.heap[a.block]? = some (.cells c t (0, 0)) := by
  unfold sgOf at hs
  split at hs
  · rename_i text hf
    have hm := find_mem hf
    obtain ⟨b, s, h1, h2, h3, h4⟩ := h _ hm
    rw [h1] at hs
    simp only [Option.some.injEq] at hs
    subst hs
    exact ⟨text, s, hm, h1, h2, h3, h4⟩
  · cases hs

theorem sent_gl {k : K} {W : World} {tp : Nat} {L : List (Nat × List UInt8)} (h : Sents W tp L) (hw : k.w0 = W) (hb : k.base = W.heap.size) (hsg : k.sg = sgOf L W) {g : Nat} (hg : (find g L).isSome = true) :
    g < k.base ∧ ∃ cv : Nat → Value, (∀ (i : Nat) (c : PV), [PV.iface tp (.sptr g)][i]? = some c → cellAt k.w0 g i = some (cv i) ∧ (cv i).oneCell = true) ∧
      ∀ (i : Nat) (c : PV), [PV.iface tp (.sptr g)][i]? = some c → Rep k.sg k.w0 (fun b _ => b < k.base) c (cv i) := by
  cases hf : find g L with
  | none => rw [hf] at hg; cases hg
  | some text =>
    obtain ⟨a, s, h1, h2, h3, h4⟩ := h _ (find_mem hf)
    have hlt : g < W.heap.size := by
      unfold World.cell? at h1
      split at h1
      · rename_i he
        exact (Array.getElem?_eq_some_iff.1 he).1
      · cases h1
    refine ⟨by rw [hb]; exact hlt, fun _ => .iface tp (.pointer (some a)), fun i c hc => ?_, fun i c hc => ?_⟩
    · cases i with
      | zero => rw [hw]; exact ⟨h1, rfl⟩
      | succ i => simp at hc
    · cases i with
      | zero =>
        simp only [List.getElem?_cons_zero, Option.some.injEq] at hc
        subst hc
        refine .iface _ _ _ (.sptr _ _ ?_)
        rw [hsg]
        simp [sgOf, hf, h1]
      | succ i => simp at hc

theorem sent_sg {k : K} {W : World} {tp : Nat} {L : List (Nat × List UInt8)} (h : Sents W tp L) (hw : k.w0 = W) (hb : k.base = W.heap.size) (hsg : k.sg = sgOf L W)
    (hnd : ∀ p ∈ L, ∀ q ∈ L, p.2 = q.2 → p.1 = q.1) :
    ∀ i j a b, i ≠ j → k.sg i = some a → k.sg j = some b → ∀ w : World, k.base ≤ w.heap.size → (∀ b, b < k.base → w.heap[b]? = k.w0.heap[b]?) → (sameAddr a b).run k.E.P w = .ok false w := by
  intro i j a b hij ha hb' w _ hk
  rw [hsg] at ha hb'
  obtain ⟨x, s, m1, _, c1, e1, ca, ta, h1⟩ := sg_at h ha
  obtain ⟨y, r, m2, _, c2, e2, cb, tb, h2⟩ := sg_at h hb'
  have old : ∀ {a : Addr} {c : Array Value} {t : TypeId}, W.heap[a.block]? = some (.cells c t (0, 0)) → w.heap[a.block]? = some (.cells c t (0, 0)) := fun {a c t} h => by
    rw [hk a.block (by rw [hb]; exact (Array.getElem?_eq_some_iff.1 h).1), hw]
    exact h
  refine run_sameAddr_other w (fun e => hij ?_) (old h1) (old h2)
  subst e
  rw [c1] at c2
  simp only [Option.some.injEq, Value.string.injEq] at c2
  subst c2
  exact hnd _ m1 _ m2 (by simp only; rw [← e1, ← e2])

/-- Whole numbers side by side, listed. -/
def intsD (kd : IntKind) (zs : List Int) : DataW Unit := .agg (zs.map fun z => .lit (.int kd z))

/-- What is asked of a variable that the evaluator may look at. -/
def GlAt (W : World) (g : Nat) (cs : List PV) : Prop := g < W.heap.size ∧ ∃ cv : Nat → Value, (∀ (i : Nat) (c : PV), cs[i]? = some c → cellAt W g i = some (cv i) ∧ (cv i).oneCell = true) ∧
  ∀ (sg : Nat → Option Addr) (i : Nat) (c : PV), cs[i]? = some c → Rep sg W (fun b _ => b < W.heap.size) c (cv i)

theorem ints_of_laid {P : Program} {W : World} {laid : List (String × DataW Unit)} {name : String} {g t e : Nat} {kd : IntKind} {n k : Nat} {zs : List Int}
    (h : laidMetH P laid W) (hplain : (laid.all fun x => x.2.handleName?.isNone) = true) (hn : P.globalNamed name = some g) (ht : (P.globals[g]?).map (·.type) = some t)
    (hu : P.underlying t = some (.array n e)) (he : P.underlying e = some (.int kd)) (hc : P.cellsOf e = 1) (hz : zs.length = n) (h0 : 0 < n) (hin : laid[k]? = some (name, intsD kd zs)) :
    GlAt W g (zs.map (.int kd)) := by
  rw [MakeChecks.laidMetH_plain _ _ _ hplain] at h
  obtain ⟨ps, hv, _, _⟩ := h
  obtain ⟨g', t', cs, fuel, p, h1, h2, h3, h4, _, _⟩ := laidVars_mem hv (List.mem_of_getElem? hin)
  rw [hn] at h1
  simp only [Option.some.injEq] at h1
  subst h1
  rw [ht] at h2
  simp only [Option.some.injEq] at h2
  subst h2
  obtain ⟨xs, m, rfl, hx, hlen, hxs, hel⟩ := DataW.trod_array hu h4
  have cell : ∀ i z, zs[i]? = some z → W.cell? ⟨g, i, none⟩ = some (.int kd z) := by
    intro i z hzi
    have hi : i < n := by rw [← hz]; exact (List.getElem?_eq_some_iff.1 hzi).1
    have h5 := hel i hi
    have hxi : xs[i]? = some xs[i] := by simp [hxs, hi]
    rw [hxi, hc] at h5
    have hfst : (xs[i]).1 = .lit (.int kd z) := by
      have hx1 : intsD kd zs = DataW.agg (xs.map (·.1)) := (Prod.mk.inj hx).1
      unfold intsD at hx1
      simp only [DataW.agg.injEq] at hx1
      have := congrArg (fun l => l[i]?) hx1
      simp only [List.getElem?_map, hzi, hxi, Option.map_some, Option.some.injEq] at this
      exact this.symm
    obtain ⟨z', e1, e2, _⟩ := DataW.trod_int he h5
    rw [e2] at hfst
    simp only [DataW.lit.injEq, Lit.int.injEq, true_and] at hfst
    subst hfst
    have hcell := World.var?_cell hn h3 i
    rw [hcell]
    have : (cs.toList.drop (i * 1)).take 1 = [.int kd z'] := e1
    rw [Nat.mul_one] at this
    have h6 := congrArg (fun l => l[0]?) this
    simp only [List.getElem?_take, List.getElem?_drop] at h6
    simpa using h6
  refine ⟨?_, fun i => .int kd (zs.getD i 0), fun i c hci => ?_, fun sg i c hci => ?_⟩
  · have := cell 0 (zs[0]'(by omega)) (by simp)
    unfold World.cell? at this
    split at this
    · rename_i hh; exact (Array.getElem?_eq_some_iff.1 hh).1
    · cases this
  · simp only [List.getElem?_map, Option.map_eq_some_iff] at hci
    obtain ⟨z, hzi, rfl⟩ := hci
    have hg : zs.getD i 0 = z := by simp [List.getD, hzi]
    simp only [hg]
    exact ⟨cell i z hzi, rfl⟩
  · simp only [List.getElem?_map, Option.map_eq_some_iff] at hci
    obtain ⟨z, hzi, rfl⟩ := hci
    have hg : zs.getD i 0 = z := by simp [List.getD, hzi]
    simp only [hg]
    exact .int kd z

/-- What the evaluator may look at: sentinels, and data. -/
noncomputable def glOf (tp : Nat) (L : List (Nat × List UInt8)) (D : List (Nat × List PV)) (g : Nat) : Option (List PV) := match find g D with
  | some cs => some cs
  | none => match (find g L).isSome with
    | true => some [.iface tp (.sptr g)]
    | false => none

theorem gl_ok {k : K} {W : World} {tp : Nat} {L : List (Nat × List UInt8)} {D : List (Nat × List PV)} (h : Sents W tp L) (hw : k.w0 = W) (hb : k.base = W.heap.size) (hsg : k.sg = sgOf L W) (hD : ∀ q ∈ D, GlAt W q.1 q.2) {g : Nat} {cs : List PV} (hg : glOf tp L D g = some cs) :
    g < k.base ∧ ∃ cv : Nat → Value, (∀ (i : Nat) (c : PV), cs[i]? = some c → cellAt k.w0 g i = some (cv i) ∧ (cv i).oneCell = true) ∧
      ∀ (i : Nat) (c : PV), cs[i]? = some c → Rep k.sg k.w0 (fun b _ => b < k.base) c (cv i) := by
  unfold glOf at hg
  split at hg
  · rename_i cs' hd
    simp only [Option.some.injEq] at hg
    subst hg
    obtain ⟨h1, cv, h2, h3⟩ := hD _ (find_mem hd)
    rw [hw, hb]
    exact ⟨h1, cv, h2, fun i c hc => h3 _ i c hc⟩
  · split at hg
    · rename_i hs
      simp only [Option.some.injEq] at hg
      subst hg
      exact sent_gl h hw hb hsg hs
    · cases hg

end Go.AE

namespace Go.AE
open Go
noncomputable section

/-- Up to a region: the state there, and the code that is left. -/
def runTo (E : En) (C : CallF) (A : Ann) (n r : Nat) : Code → FS → Option (FS × Code)
  | .region id ops d, fs => match Nat.beq id r with
    | true => some (fs, .region id ops d)
    | false => none
  | .seq a b, fs => match runTo E C A n r a fs with
    | some (fs1, a') => some (fs1, .seq a' b)
    | none => match execN E C A n a fs with
      | some (.normal, fs1) => runTo E C A n r b fs1
      | _ => none
  | .cond c a b, fs => match evalO E fs.env c with
    | some (.p (.bool true)) => runTo E C A n r a fs
    | some (.p (.bool false)) => runTo E C A n r b fs
    | _ => none
  | .block id b, fs => (runTo E C A n r b fs).map fun q => (q.1, .block id q.2)
  | _, _ => none

theorem runTo_spec {E : En} {C : CallF} {A : Ann} {n r : Nat} : ∀ (c : Code) {fs fs1 : FS} {c1 : Code}, runTo E C A n r c fs = some (fs1, c1) → execN E C A n c fs = execN E C A n c1 fs1 := by
  intro c
  induction c with
  | region id ops d =>
    intro fs fs1 c1 h
    simp only [runTo] at h
    split at h
    · simp only [Option.some.injEq, Prod.mk.injEq] at h
      obtain ⟨rfl, rfl⟩ := h; rfl
    · cases h
  | seq a b iha ihb =>
    intro fs fs1 c1 h
    simp only [runTo] at h
    split at h
    · rename_i fs2 a' ha
      simp only [Option.some.injEq, Prod.mk.injEq] at h
      obtain ⟨rfl, rfl⟩ := h
      simp only [execN, iha ha]
    · split at h
      · rename_i fs2 ha
        simp only [execN, ha, thenV]
        exact ihb h
      · cases h
  | cond c a b iha ihb =>
    intro fs fs1 c1 h
    simp only [runTo] at h
    split at h
    · rename_i hc
      simp only [execN, hc]; exact iha h
    · rename_i hc
      simp only [execN, hc]; exact ihb h
    · cases h
  | block id b ih =>
    intro fs fs1 c1 h
    simp only [runTo, Option.map_eq_some_iff] at h
    obtain ⟨⟨f2, c2⟩, h2, h3⟩ := h
    simp only [Prod.mk.injEq] at h3
    obtain ⟨rfl, rfl⟩ := h3
    simp only [execN, ih h2]
  | _ => intros; simp_all [runTo]

/-- Some places of a state, anew. -/
def setsE : List (Nat × V) → Tr → Tr
  | [], e => e
  | (i, v) :: r, e => setsE r (e.set i v)

/-- What is left of a function's run behind a cut that is made at one argument list, some places anew. -/
def tailN (E : En) (m f r : Nat) (args : List V) (st : St) (sets : List (Nat × V)) : Option (V × St) :=
  match E.P.funcs[f]? with
  | some fn => match fn.body with
    | some b => match runTo E (callN E m) (E.A f) m r b (enterV fn args st) with
      | some (fs, c) => finishV E fn (E.A f) st.next (execN E (callN E m) (E.A f) m c { fs with env := setsE sets fs.env })
      | none => none
    | none => none
  | none => none

/-- The state at a cut. -/
def headN (E : En) (m f r : Nat) (args : List V) (st : St) (sets : List (Nat × V)) : Option (FS × Code) :=
  match E.P.funcs[f]? with
  | some fn => match fn.body with
    | some b => match runTo E (callN E m) (E.A f) m r b (enterV fn args st) with
      | some (fs, c) => some ({ fs with env := setsE sets fs.env }, c)
      | none => none
    | none => none
  | none => none

theorem callN_cut {E : En} {m f r : Nat} {args args' : List V} {st : St} {sets : List (Nat × V)} (hs : E.summ f = none) (h : headN E m f r args st [] = headN E m f r args' st sets) (hsome : (headN E m f r args st []).isSome = true) :
    callN E (m + 1) f args st = tailN E m f r args' st sets := by
  unfold headN at h hsome
  unfold tailN
  simp only [callN, hs]
  cases hf : E.P.funcs[f]? with
  | none => simp [hf] at hsome
  | some fn =>
    rw [hf] at h hsome
    simp only at h hsome ⊢
    cases hb : fn.body with
    | none => simp [hb] at hsome
    | some b =>
      rw [hb] at h hsome
      simp only at h hsome ⊢
      cases h1 : runTo E (callN E m) (E.A f) m r b (enterV fn args st) with
      | none => simp [h1] at hsome
      | some q =>
        obtain ⟨fs1, c1⟩ := q
        rw [h1] at h
        simp only [setsE] at h
        cases h2 : runTo E (callN E m) (E.A f) m r b (enterV fn args' st) with
        | none => rw [h2] at h; cases h
        | some q2 =>
          obtain ⟨fs2, c2⟩ := q2
          rw [h2] at h
          simp only [Option.some.injEq, Prod.mk.injEq] at h
          simp only
          rw [← h.1, ← h.2, runTo_spec b h1]
end
end Go.AE

namespace Go.AE
open Go

theorem wrap64_id {n : Int} (h0 : -9223372036854775808 ≤ n) (h1 : n < 9223372036854775808) : IntKind.i64.wrap n = n := by
  rw [IntKind.wrap_i64]
  omega

/-- The number that is taken of a list: 'k := (which%m + m) % m'. -/
def pick (m n : Int) : Int := (IntKind.i64.wrap (n.tmod m + m)).tmod m

theorem pick_range {m : Int} (h0 : 0 < m) (h1 : m < 1000000) (n : Int) : 0 ≤ pick m n ∧ pick m n < m := by
  have a1 : n.tmod m < m := Int.tmod_lt_of_pos n h0
  have a2 : -m < n.tmod m := by
    have := Int.tmod_lt_of_pos (-n) h0
    rw [Int.neg_tmod] at this
    omega
  unfold pick
  rw [wrap64_id (by omega) (by omega)]
  exact ⟨Int.tmod_nonneg _ (by omega), Int.tmod_lt_of_pos _ h0⟩

theorem of_map {α β : Type} {x : Option (α × β)} {v : α} (h : x.map (·.1) = some v) : ∃ b, x = some (v, b) := by
  cases x with
  | none => cases h
  | some q =>
    simp only [Option.map_some, Option.some.injEq] at h
    exact ⟨q.2, by rw [← h]⟩
end Go.AE

namespace Go.AE
open Go

abbrev Summs := List (Nat × (List V → St → Option (V × St)))
noncomputable def mkE (P : Program) (tiL : List (Nat × TI)) (annL : List (Nat × Ann)) (tp : Nat) (L : List (Nat × List UInt8)) (D : List (Nat × List PV)) (Sm : Summs) : En :=
  { P, T := fun t => find t tiL, G := glOf tp L D, A := fun f => (find f annL).getD {}, summ := fun f => find f Sm }
noncomputable def mkK (E : En) (L : List (Nat × List UInt8)) (W : World) : K := { E, base := W.heap.size, w0 := W, sg := sgOf L W }

/-- A summary holds. -/
def SummOk (k : K) (f : Nat) (s : List V → St → Option (V × St)) : Prop := ∀ vs st v st', s vs st = some (v, st') → ∀ (X : XR) (w : World) (cx : Cx) (cs : List Value), FR k X w cx (fsG st) actG → AR k w cx vs cs →
    ((callFunc f ⟨cs⟩).run k.E.P w = .ok (.enter f ⟨cs⟩) w ∧ Calls k.E.P f ⟨cs⟩ w fun e w' => ∃ c, e = .returned c ∧ Post k X w cx v st' c w') ∨
    ∃ c w', (callFunc f ⟨cs⟩).run k.E.P w = .ok (.value c) w' ∧ Post k X w cx v st' c w'

theorem mk_ok {P : Program} {tiL : List (Nat × TI)} {annL : List (Nat × Ann)} {tp : Nat} {L : List (Nat × List UInt8)} {D : List (Nat × List PV)} {Sm : Summs} {W : World}
    (ti_ok : tiL.map (fun q => tiOf P q.1) = tiL.map fun q => some q.2) (names_ok : (P.funcs.toList.all fun fn => !(fn.name == "runtime.NumGoroutine")) = true)
    (text_ok : (P.funcs.toList.all fun fn => match fn.body with | some b => codeOk b | none => true) = true) (mixed_ok : P.follows .mixedOrders = true)
    (h : Sents W tp L) (hnd : ∀ p ∈ L, ∀ q ∈ L, p.2 = q.2 → p.1 = q.1) (hD : ∀ q ∈ D, GlAt W q.1 q.2) (hS : ∀ q ∈ Sm, SummOk (mkK (mkE P tiL annL tp L D Sm) L W) q.1 q.2) : Ok (mkK (mkE P tiL annL tp L D Sm) L W) where
  base := {
    ty := fun t ti ht => List.map_inj_left.1 ti_ok (t, ti) (find_mem ht)
    gl := fun g cs hg => gl_ok (k := mkK (mkE P tiL annL tp L D Sm) L W) h rfl rfl rfl hD hg
    sg := sent_sg (k := mkK (mkE P tiL annL tp L D Sm) L W) h rfl rfl rfl hnd }
  name := fun f fn hf => by
    have := List.all_eq_true.1 names_ok fn (by rw [← Array.getElem?_toList] at hf; exact List.mem_of_getElem? hf)
    simpa using this
  text := fun f fn b hf hb => by
    have := List.all_eq_true.1 text_ok fn (by rw [← Array.getElem?_toList] at hf; exact List.mem_of_getElem? hf)
    rw [hb] at this
    exact this
  mixed := mixed_ok
  summ := fun f s hs => hS (f, s) (find_mem hs)
end Go.AE

namespace Go.AE
open Go

theorem OR.of {k k' : K} (hT : k'.E.T = k.E.T) (hs : k'.sg = k.sg) {w : World} {cx : Cx} {r : Ref} {o : Obj} (h : OR k w cx r o) : OR k' w cx r o := by
  cases o with
  | cells cs =>
    obtain ⟨h1, b, T, l, h2, h3, h4, h5, h6, h7⟩ := h
    exact ⟨h1, b, T, l, h2, h3, h4, h5, fun i c v hc hv => by rw [hs]; exact h6 i c v hc hv, h7⟩
  | vec et es stab =>
    obtain ⟨h1, q, h2, h3, h4, h5⟩ := h
    refine ⟨h1, q, h2, h3, h4, ?_⟩
    cases hq : q.blk with
    | none => rw [hq] at h5; exact h5
    | some b =>
      rw [hq] at h5
      obtain ⟨e, te, l, g1, g2, g3, g4, g5, g6, g7, g8, g9, g10, g11, g12⟩ := h5
      exact ⟨e, te, l, g1, by rw [hT]; exact g2, g3, g4, g5, g6, g7, g8, g9, g10, fun i x j c hx hc => by
        obtain ⟨v, hv, hr⟩ := g11 i x j c hx hc
        exact ⟨v, hv, by rw [hs]; exact hr⟩, g12⟩
  | map es =>
    obtain ⟨h1, b, ms, ck, h2, h3, h4, h5, h6⟩ := h
    exact ⟨h1, b, ms, ck, h2, h3, h4, fun i x v m hx hm => by rw [hs]; exact h5 i x v m hx hm, h6⟩

theorem FR.of {k k' : K} (hT : k'.E.T = k.E.T) (hs : k'.sg = k.sg) (hb : k'.base = k.base) (hw : k'.w0 = k.w0) {X : XR} {w : World} {cx : Cx} {fs : FS} {a : Act} (fr : FR k X w cx fs a) : FR k' X w cx fs a :=
  ⟨by rw [hb]; exact fr.size, fun b h => by rw [hw]; exact fr.pre b (by rw [← hb]; exact h), fun b h => fr.preS b (by rw [← hb]; exact h), fr.slt, fun r o ho hal => (fr.obj r o ho hal).of hT hs, fr.non, fun r b h => by rw [hb]; exact fr.own1 r b h, fr.own2, fr.xlt, fr.alL, fr.alG, fr.obL, fr.obG, fr.len,
    fun i v c hv hc => by rw [hs]; exact fr.env i v c hv hc, fr.defers, fr.gl, fr.res⟩

theorem Post.of {k k' : K} (hT : k'.E.T = k.E.T) (hs : k'.sg = k.sg) (hb : k'.base = k.base) (hw : k'.w0 = k.w0) {X : XR} {w : World} {cx : Cx} {v : V} {st' : St} {c : Value} {w' : World} (h : Post k X w cx v st' c w') : Post k' X w cx v st' c w' := by
  obtain ⟨cx', h1, h2, h3⟩ := h
  exact ⟨cx', h1.of hT hs hb hw, by rw [hb]; exact h2, by rw [hs]; exact h3⟩

/-- What the evaluator says without a summary may be a summary. -/
theorem summ_of {k k0 : K} (ok0 : Ok k0) (hP : k.E.P = k0.E.P) (hT : k.E.T = k0.E.T) (hs : k.sg = k0.sg) (hb : k.base = k0.base) (hw : k.w0 = k0.w0) {f : Nat} {s : List V → St → Option (V × St)}
    (h : ∀ vs st v st', s vs st = some (v, st') → ∃ n, callN k0.E n f vs st = some (v, st')) : SummOk k f s := by
  intro vs st v st' hsum X w cx cs fr har
  obtain ⟨n, hn⟩ := h vs st v st' hsum
  have fr0 := fr.of (k' := k0) hT.symm hs.symm hb.symm hw.symm
  have har0 : AR k0 w cx vs cs := ⟨har.1, fun i x c hx hc => by rw [← hs]; exact har.2 i x c hx hc⟩
  rw [hP]
  rcases callN_ok ok0 n f vs st v st' hn X w cx cs fr0 har0 with ⟨h1, h2⟩ | ⟨c, w', h1, h2⟩
  · exact .inl ⟨h1, h2.mono fun e w' ⟨c, he, hp⟩ => ⟨c, he, hp.of hT hs hb hw⟩⟩
  · exact .inr ⟨c, w', h1, h2.of hT hs hb hw⟩

/-- A function at some texts: what it comes to. -/
noncomputable def atTexts (tab : List (List UInt8 × PV)) (vs : List V) (st : St) : Option (V × St) := match vs with
  | [.p (.str s)] => List.rec none (fun q _ ih => match PV.beq (.str s) (.str q.1) with
    | true => some (.p q.2, st.cut st.next)
    | false => ih) tab
  | _ => none

theorem atTexts_spec {tab : List (List UInt8 × PV)} {vs : List V} {st st' : St} {v : V} (h : atTexts tab vs st = some (v, st')) : ∃ q ∈ tab, vs = [.p (.str q.1)] ∧ v = .p q.2 ∧ st' = st.cut st.next := by
  unfold atTexts at h
  split at h
  · rename_i s
    induction tab with
    | nil => cases h
    | cons q r ih =>
      simp only at h
      split at h
      · rename_i e
        have := PV.beq_eq _ _ e
        simp only [PV.str.injEq] at this
        subst this
        simp only [Option.some.injEq, Prod.mk.injEq] at h
        exact ⟨q, by simp, rfl, h.1.symm, h.2.symm⟩
      · obtain ⟨q', h1, h2⟩ := ih h
        exact ⟨q', List.mem_cons_of_mem _ h1, h2⟩
  · cases h
end Go.AE
