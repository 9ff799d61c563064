/-
AE, part C: what abstract values stand for in a world, and that it goes on holding.
AE, part D: the operations that leave the abstract state as it is do what the evaluator says.
AE, part E: quiet operations, further ones.
AE, part F: arithmetic, comparisons, conversions.
AE, part G: the quiet operations that leave the world as it is, one and all.
-/
import Derived.Test.YtmnkgecogbhbnaaDoorAe0
import Derived.Wp
import Derived.Laws.AppendOwn
import Derived.Laws.MakeOwn
import Derived.Laws.Strings
namespace Go.AE
open Go

def cellAt (w : World) (b o : Nat) : Option Value := w.cell? ⟨b, o, none⟩

/-- A pure value stands for a concrete one: what it reads in memory lies in cells that stay (S). -/
inductive Rep (sg : Nat → Option Addr) (w : World) (S : Nat → Nat → Prop) : PV → Value → Prop
  | any (v : Value) : Rep sg w S .any v
  | bool (b : Bool) : Rep sg w S (.bool b) (.bool b)
  | int (k : IntKind) (n : Int) : Rep sg w S (.int k n) (.int k n)
  | str (s : ByteArray) (l : List UInt8) (h : s.data.toList = l) : Rep sg w S (.str l) (.string s)
  | nilp : Rep sg w S .nilp (.pointer none)
  | pref (cs : List PV) (off b o : Nat) (cv : Nat → Value)
      (hc : ∀ i c, cs[i]? = some c → S b (o + i) ∧ cellAt w b (o + i) = some (cv i) ∧ (cv i).oneCell = true)
      (hr : ∀ i c, cs[i]? = some c → Rep sg w S c (cv i)) : Rep sg w S (.pref cs off) (.pointer (some ⟨b, o + off, none⟩))
  | sptr (k : Nat) (a : Addr) (h : sg k = some a) : Rep sg w S (.sptr k) (.pointer (some a))
  | nilS (k : LK) (h : k ≠ .lit) : Rep sg w S (.list k []) (.slice none 0 0)
  | list (k : LK) (es : List PV) (b o cap sz : Nat) (cv : Nat → Nat → Value) (hk : k ≠ .nil) (hl : k = .lit → cap = es.length) (hcap : es.length ≤ cap)
      (hs : ∀ (i : Nat) (e : PV), es[i]? = some e → e.cells.length = sz)
      (hc : ∀ (i : Nat) (e : PV) (j : Nat) (c : PV), es[i]? = some e → e.cells[j]? = some c → S b (o + (i * sz + j)) ∧ cellAt w b (o + (i * sz + j)) = some (cv i j) ∧ (cv i j).oneCell = true)
      (hr : ∀ (i : Nat) (e : PV) (j : Nat) (c : PV), es[i]? = some e → e.cells[j]? = some c → Rep sg w S c (cv i j)) :
      Rep sg w S (.list k es) (.slice (some ⟨b, o, none⟩) es.length cap)
  | nilmap : Rep sg w S .nilmap (.map none)
  | agg (cs : List PV) (l : List Value) (hl : l.length = cs.length) (ho : ∀ (i : Nat) (v : Value), l[i]? = some v → v.oneCell = true)
      (hr : ∀ (i : Nat) (c : PV) (v : Value), cs[i]? = some c → l[i]? = some v → Rep sg w S c v) : Rep sg w S (.agg cs) (.agg ⟨l⟩)
  | func (fn : Fn) (a b : List PV) (x y : List Value) (hx : x.length = a.length) (hy : y.length = b.length)
      (ha : ∀ (i : Nat) (c : PV) (v : Value), a[i]? = some c → x[i]? = some v → Rep sg w S c v) (hb : ∀ (i : Nat) (c : PV) (v : Value), b[i]? = some c → y[i]? = some v → Rep sg w S c v) :
      Rep sg w S (.func fn a b) (.func fn ⟨x⟩ ⟨y⟩)
  | nilfn : Rep sg w S .nilfn .nilFunc
  | iface (t : Nat) (x : PV) (v : Value) (h : Rep sg w S x v) : Rep sg w S (.iface t x) (.iface t v)
  | nilif : Rep sg w S .nilif .nilIface
  | tuple (cs : List PV) (l : List Value) (hl : l.length = cs.length)
      (hr : ∀ (i : Nat) (c : PV) (v : Value), cs[i]? = some c → l[i]? = some v → Rep sg w S c v) : Rep sg w S (.tuple cs) (.tuple ⟨l⟩)

theorem Rep.mono {sg : Nat → Option Addr} {w w' : World} {S S' : Nat → Nat → Prop} {x : PV} {v : Value} (h : Rep sg w S x v)
    (hS : ∀ b i, S b i → S' b i) (hw : ∀ b i v, S b i → cellAt w b i = some v → cellAt w' b i = some v) : Rep sg w' S' x v := by
  induction h with
  | any v => exact .any v
  | bool b => exact .bool b
  | int k n => exact .int k n
  | str s l h => exact .str s l h
  | nilp => exact .nilp
  | pref cs off b o cv hc _ ih => exact .pref cs off b o cv (fun i c h => ⟨hS _ _ (hc i c h).1, hw _ _ _ (hc i c h).1 (hc i c h).2.1, (hc i c h).2.2⟩) ih
  | sptr k a h => exact .sptr k a h
  | nilS k h => exact .nilS k h
  | list k es b o cap sz cv hk hl hcap hs hc _ ih =>
    exact .list k es b o cap sz cv hk hl hcap hs (fun i e j c h1 h2 => ⟨hS _ _ (hc i e j c h1 h2).1, hw _ _ _ (hc i e j c h1 h2).1 (hc i e j c h1 h2).2.1, (hc i e j c h1 h2).2.2⟩) ih
  | nilmap => exact .nilmap
  | agg cs l hl ho _ ih => exact .agg cs l hl ho ih
  | func fn a b x y hx hy _ _ iha ihb => exact .func fn a b x y hx hy iha ihb
  | nilfn => exact .nilfn
  | iface t x v _ ih => exact .iface t x v ih
  | nilif => exact .nilif
  | tuple cs l hl _ ih => exact .tuple cs l hl ih

/-- A growing slice, in memory. -/
structure VC where
  len : Nat
  blk : Option Nat
  cap : Nat
  sz : Nat
def VC.val (q : VC) : Value := .slice (q.blk.map fun b => ⟨b, 0, none⟩) q.len q.cap

/-- Where the objects lie, which cells stay, which names were ever given. -/
structure Cx where
  S : Nat → Nat → Prop
  blk : Ref → Option Nat
  vec : Ref → Option VC
  al : Ref → Prop

inductive VR (sg : Nat → Option Addr) (w : World) (cx : Cx) : V → Value → Prop
  | p (x : PV) (v : Value) (h : Rep sg w cx.S x v) : VR sg w cx (.p x) v
  | ptr (r : Ref) (off : Nat) (a : Addr) (hal : cx.al r) (h : ∀ b, cx.blk r = some b → a = ⟨b, off, none⟩) : VR sg w cx (.ptr r off) (.pointer (some a))
  | vptr (r : Ref) (n i off : Nat) (a : Addr) (hal : cx.al r)
      (h : ∀ q, cx.vec r = some q → n ≤ q.len ∧ (q.len = n → ∃ b, q.blk = some b ∧ a = ⟨b, i * q.sz + off, none⟩)) : VR sg w cx (.vptr r n i off) (.pointer (some a))
  | vec (r : Ref) (n : Nat) (a : Option Addr) (cap : Nat) (hal : cx.al r)
      (h : ∀ q, cx.vec r = some q → n ≤ q.len ∧ (q.len = n → .slice a n cap = q.val)) : VR sg w cx (.vec r n) (.slice a n cap)
  | map (r : Ref) (b : Nat) (hal : cx.al r) (h : ∀ b', cx.blk r = some b' → b = b') : VR sg w cx (.map r) (.map (some b))
  | agg (cs : List V) (l : List Value) (hl : l.length = cs.length) (ho : ∀ (i : Nat) (v : Value), l[i]? = some v → v.oneCell = true)
      (hr : ∀ (i : Nat) (c : V) (v : Value), cs[i]? = some c → l[i]? = some v → VR sg w cx c v) : VR sg w cx (.agg cs) (.agg ⟨l⟩)
  | func (fn : Fn) (a b : List V) (x y : List Value) (hx : x.length = a.length) (hy : y.length = b.length)
      (ha : ∀ (i : Nat) (c : V) (v : Value), a[i]? = some c → x[i]? = some v → VR sg w cx c v) (hb : ∀ (i : Nat) (c : V) (v : Value), b[i]? = some c → y[i]? = some v → VR sg w cx c v) :
      VR sg w cx (.func fn a b) (.func fn ⟨x⟩ ⟨y⟩)
  | tuple (cs : List V) (l : List Value) (hl : l.length = cs.length)
      (hr : ∀ (i : Nat) (c : V) (v : Value), cs[i]? = some c → l[i]? = some v → VR sg w cx c v) : VR sg w cx (.tuple cs) (.tuple ⟨l⟩)

/-- What a frame must not touch: blocks of those who called, names that are kept for later. -/
structure XR where
  b : Nat → Prop
  n : Ref → Prop
instance : CoeFun XR (fun _ => Nat → Prop) := ⟨XR.b⟩

/-- The outside is as it was, and what is frozen of memory. -/
def IO (w w' : World) : Prop := w'.os = w.os ∧ w'.output = w.output
theorem IO.refl (w : World) : IO w w := ⟨rfl, rfl⟩
theorem IO.trans {w w' w'' : World} (h : IO w w') (g : IO w' w'') : IO w w'' := ⟨g.1.trans h.1, g.2.trans h.2⟩

/-- From one state of memory to a later one: what stays stays; X: blocks of those who called. -/
structure Le (base : Nat) (X : XR) (w : World) (cx : Cx) (w' : World) (cx' : Cx) : Prop where
  size : w.heap.size ≤ w'.heap.size
  kept : ∀ b, b < base ∨ X b → w'.heap[b]? = w.heap[b]?
  cells : ∀ b i v, cx.S b i → cellAt w b i = some v → cellAt w' b i = some v
  smono : ∀ b i, cx.S b i → cx'.S b i
  snew : ∀ b i, cx'.S b i → cx.S b i ∨ ¬ X b
  al : ∀ r, cx.al r → cx'.al r
  blk : ∀ r b, cx.al r → cx'.blk r = some b → cx.blk r = some b
  vec : ∀ r q', cx.al r → cx'.vec r = some q' → ∃ q, cx.vec r = some q ∧ q.len ≤ q'.len ∧ (q'.len = q.len → q' = q)
  io : IO w w'

theorem Le.refl (base : Nat) (X : XR) (w : World) (cx : Cx) : Le base X w cx w cx :=
  ⟨Nat.le_refl _, fun _ _ => rfl, fun _ _ _ _ h => h, fun _ _ h => h, fun _ _ h => .inl h, fun _ h => h, fun _ _ _ h => h, fun _ q _ h => ⟨q, h, Nat.le_refl _, fun _ => rfl⟩, .refl w⟩

theorem Le.trans {base : Nat} {X : XR} {w w' w'' : World} {cx cx' cx'' : Cx} (h : Le base X w cx w' cx') (g : Le base X w' cx' w'' cx'') : Le base X w cx w'' cx'' where
  size := Nat.le_trans h.size g.size
  kept b hb := (g.kept b hb).trans (h.kept b hb)
  cells b i v hs hv := g.cells b i v (h.smono b i hs) (h.cells b i v hs hv)
  smono b i hs := g.smono b i (h.smono b i hs)
  snew b i hs := (g.snew b i hs).elim (h.snew b i) .inr
  al r hr := g.al r (h.al r hr)
  blk r b hr hb := h.blk r b hr (g.blk r b (h.al r hr) hb)
  vec r q'' hr hq := by
    obtain ⟨q', hq', h1, h2⟩ := g.vec r q'' (h.al r hr) hq
    obtain ⟨q, hq0, h3, h4⟩ := h.vec r q' hr hq'
    refine ⟨q, hq0, Nat.le_trans h3 h1, fun e => ?_⟩
    have e1 : q''.len = q'.len := by omega
    have e2 : q'.len = q.len := by omega
    rw [h2 e1, h4 e2]
  io := h.io.trans g.io

theorem VR.mono {sg : Nat → Option Addr} {base : Nat} {X : XR} {w w' : World} {cx cx' : Cx} {x : V} {v : Value} (h : VR sg w cx x v) (g : Le base X w cx w' cx') : VR sg w' cx' x v := by
  induction h with
  | p x v h => exact .p x v (h.mono g.smono g.cells)
  | ptr r off a hal h => exact .ptr r off a (g.al r hal) fun b hb => h b (g.blk r b hal hb)
  | vptr r n i off a hal h =>
    refine .vptr r n i off a (g.al r hal) fun q' hq' => ?_
    obtain ⟨q, hq, h1, h2⟩ := g.vec r q' hal hq'
    obtain ⟨h3, h4⟩ := h q hq
    refine ⟨Nat.le_trans h3 h1, fun e => ?_⟩
    have e1 : q'.len = q.len := by omega
    have := h2 e1; subst this
    exact h4 e
  | vec r n a cap hal h =>
    refine .vec r n a cap (g.al r hal) fun q' hq' => ?_
    obtain ⟨q, hq, h1, h2⟩ := g.vec r q' hal hq'
    obtain ⟨h3, h4⟩ := h q hq
    refine ⟨Nat.le_trans h3 h1, fun e => ?_⟩
    have e1 : q'.len = q.len := by omega
    have := h2 e1; subst this
    exact h4 e
  | map r b hal h => exact .map r b (g.al r hal) fun b' hb => h b' (g.blk r b' hal hb)
  | agg cs l hl ho _ ih => exact .agg cs l hl ho ih
  | func fn a b x y hx hy _ _ iha ihb => exact .func fn a b x y hx hy iha ihb
  | tuple cs l hl _ ih => exact .tuple cs l hl ih

/-- Into a context that knows as much. -/
theorem VR.lift {sg : Nat → Option Addr} {w : World} {cx1 cx2 : Cx} {v : V} {c : Value} (h : VR sg w cx1 v c) (hS : ∀ b i, cx1.S b i → cx2.S b i) (hr : ∀ r, cx1.al r → cx2.al r ∧ cx2.blk r = cx1.blk r ∧ cx2.vec r = cx1.vec r) : VR sg w cx2 v c := by
  induction h with
  | p x v h => exact .p x v (h.mono hS fun _ _ _ _ h => h)
  | ptr r off a hal h => exact .ptr r off a (hr r hal).1 fun b hb => h b (by rw [← (hr r hal).2.1]; exact hb)
  | vptr r n i off a hal h => exact .vptr r n i off a (hr r hal).1 fun q hq => h q (by rw [← (hr r hal).2.2]; exact hq)
  | vec r n a cap hal h => exact .vec r n a cap (hr r hal).1 fun q hq => h q (by rw [← (hr r hal).2.2]; exact hq)
  | map r b hal h => exact .map r b (hr r hal).1 fun b' hb => h b' (by rw [← (hr r hal).2.1]; exact hb)
  | agg cs l hl ho _ ih => exact .agg cs l hl ho ih
  | func fn a b x y hx hy _ _ iha ihb => exact .func fn a b x y hx hy iha ihb
  | tuple cs l hl _ ih => exact .tuple cs l hl ih

/-- The constants of a run. -/
structure K where
  E : En
  base : Nat
  w0 : World
  sg : Nat → Option Addr

/-- An object stands for what lies in memory. -/
def OR (k : K) (w : World) (cx : Cx) (r : Ref) : Obj → Prop
  | .cells cs => cx.vec r = none ∧ ∃ (b T : Nat) (l : List Value), cx.blk r = some b ∧ w.heap[b]? = some (.cells ⟨l⟩ T (0, 0)) ∧ l.length = cs.length ∧
      (∀ (i : Nat) (v : Value), l[i]? = some v → v.oneCell = true) ∧ (∀ (i : Nat) (c : V) (v : Value), cs[i]? = some c → l[i]? = some v → VR k.sg w cx c v) ∧ ∀ i, ¬ cx.S b i
  | .vec et es stab => cx.blk r = none ∧ ∃ q, cx.vec r = some q ∧ q.len = es.length ∧ stab ≤ es.length ∧ match q.blk with
    | none => es = [] ∧ q.cap = 0
    | some b => ∃ (e : Nat) (te : TI) (l : List Value), et = some e ∧ k.E.T e = some te ∧ q.sz = te.size ∧ 0 < q.sz ∧ w.heap[b]? = some (.cells ⟨l⟩ e (0, 0)) ∧
      q.cap * q.sz = l.length ∧ es.length ≤ q.cap ∧ q.cap ≤ maxLen ∧ (∀ (i : Nat) (v : Value), l[i]? = some v → v.oneCell = true) ∧
      (∀ (i : Nat) (x : PV), es[i]? = some x → x.cells.length = q.sz) ∧
      (∀ (i : Nat) (x : PV) (j : Nat) (c : PV), es[i]? = some x → x.cells[j]? = some c → ∃ v : Value, l[i * q.sz + j]? = some v ∧ Rep k.sg w cx.S c v) ∧
      (∀ m, m < stab * q.sz → cx.S b m) ∧ ∀ m, stab * q.sz ≤ m → ¬ cx.S b m
  | .map es => cx.vec r = none ∧ ∃ (b : Nat) (ms : List MapEntry) (ck : Nat), cx.blk r = some b ∧ w.heap[b]? = some (.map ⟨ms⟩ ck) ∧ ms.length = es.length ∧
      (∀ (i : Nat) (x : PV) (v : V) (m : MapEntry), es[i]? = some (x, v) → ms[i]? = some m → Rep k.sg w cx.S x m.key ∧ VR k.sg w cx v m.val) ∧
      (∀ (i j : Nat) (m n : MapEntry), i < j → ms[i]? = some m → ms[j]? = some n → m.born < n.born) ∧ ∀ m ∈ ms, m.born < ck

/-- The block that an object has for its own. -/
def Cx.own (cx : Cx) (r : Ref) : Option Nat := match cx.blk r with
  | some b => some b
  | none => (cx.vec r).bind VC.blk

/-- Values that name nothing of a frame. -/
def glob1 : V → Bool
  | .p _ | .ptr (.glob _) _ | .map (.glob _) | .vec (.glob _) _ => true
  | .func _ a b => a.all globby && b.all globby
  | _ => false
def globA : V → Bool
  | .agg cs => cs.all glob1
  | v => glob1 v
def globV : V → Bool
  | .tuple vs => vs.all globA
  | v => globA v
def globO : Obj → Bool
  | .cells cs => cs.all glob1
  | .vec _ _ _ => true
  | .map es => es.all fun q => globA q.2

/-- It is older than the state's next names. -/
def Ref.old (fs : FS) : Ref → Prop
  | .loc id => id < fs.nid
  | .glob n => n < fs.st.next

/-- The whole state of a frame stands for a world and its temporaries. -/
structure FR (k : K) (X : XR) (w : World) (cx : Cx) (fs : FS) (a : Act) : Prop where
  size : k.base ≤ w.heap.size
  pre : ∀ b, b < k.base → w.heap[b]? = k.w0.heap[b]?
  preS : ∀ b, b < k.base → ∀ i, cx.S b i
  slt : ∀ b i, cx.S b i → b < w.heap.size
  obj : ∀ r o, fs.obj r = some o → cx.al r → OR k w cx r o
  non : ∀ r, ¬ cx.al r → cx.blk r = none ∧ cx.vec r = none
  own1 : ∀ r b, cx.own r = some b → k.base ≤ b ∧ b < w.heap.size ∧ ¬ X b
  own2 : ∀ r r' b, cx.own r = some b → cx.own r' = some b → r = r'
  xlt : ∀ b, X b → b < w.heap.size
  alL : ∀ id, cx.al (.loc id) → id < fs.nid
  alG : ∀ n, cx.al (.glob n) → n < fs.st.next
  obL : ∀ id o, fs.obj (.loc id) = some o → id < fs.nid
  obG : ∀ n o, fs.obj (.glob n) = some o → n < fs.st.next
  len : ∀ i v, fs.env.get i = some v → i < a.tmps.size
  env : ∀ (i : Nat) (v : V) (c : Value), (fs.env.get i) = some v → a.tmps[i]? = some c → VR k.sg w cx v c
  defers : a.defers = []
  gl : ∀ n o, fs.obj (.glob n) = some o → globO o = true
  res : ∀ r, X.n r → ¬ cx.al r ∧ r.old fs

end Go.AE

namespace Go.AE
open Go

structure KOk (k : K) : Prop where
  ty : ∀ t ti, k.E.T t = some ti → tiOf k.E.P t = some ti
  gl : ∀ g cs, k.E.G g = some cs → g < k.base ∧ ∃ cv : Nat → Value, (∀ (i : Nat) (c : PV), cs[i]? = some c → cellAt k.w0 g i = some (cv i) ∧ (cv i).oneCell = true) ∧
    ∀ (i : Nat) (c : PV), cs[i]? = some c → Rep k.sg k.w0 (fun b _ => b < k.base) c (cv i)
  sg : ∀ i j a b, i ≠ j → k.sg i = some a → k.sg j = some b → ∀ w : World, k.base ≤ w.heap.size → (∀ b, b < k.base → w.heap[b]? = k.w0.heap[b]?) → (sameAddr a b).run k.E.P w = .ok false w

theorem cellAt_of_heap {w w' : World} {b i : Nat} (h : w'.heap[b]? = w.heap[b]?) : cellAt w' b i = cellAt w b i := by simp [cellAt, World.cell?, h]

theorem Addr_add (b o n : Nat) : (⟨b, o, none⟩ : Addr).add n = ⟨b, o + n, none⟩ := by
  unfold Addr.add; split
  · next h => subst h; rfl
  · rfl

/-- What a type's row gives. -/
theorem tiOf_spec {P : Program} {t : Nat} {ti : TI} (h : tiOf P t = some ti) : ∃ (i : TypeInfo) (d : TypeDesc) (z : Value), P.info? t = some i ∧ P.underlying t = some d ∧ i.zero = some z ∧
    scals z.cells.toList = some ti.zero ∧ ti.size = i.size ∧ ti.bytes = i.bytes ∧ ti.ag = aggD d ∧ ti.und = undOf d ∧ isAggV z = aggD d ∧ ti.zero.length = i.size ∧ ti.cmp = i.comparable := by
  unfold tiOf at h
  split at h
  · rename_i i d hi hd
    split at h
    · rename_i z hz
      split at h
      · rename_i zs hzs
        split at h
        · rename_i hc
          simp only [Option.some.injEq] at h
          subst h
          exact ⟨i, d, z, hi, hd, hz, hzs, rfl, rfl, rfl, rfl, hc.1, hc.2, rfl⟩
        · cases h
      · cases h
    · cases h
  · cases h

section
variable {P : Program} {t : Nat} {ti : TI}
theorem run_typeInfo {i : TypeInfo} (h : P.info? t = some i) (w : World) : (typeInfo t).run P w = .ok i w := by simp [typeInfo, h]
theorem run_und {d : TypeDesc} (h : P.underlying t = some d) (w : World) : (underlying t).run P w = .ok d w := by simp [underlying, h]
theorem run_isAgg (h : tiOf P t = some ti) (w : World) : (isAgg t).run P w = .ok ti.ag w := by
  obtain ⟨i, d, z, hi, hd, _, _, _, _, ha, _⟩ := tiOf_spec h
  simp only [isAgg, Sem.run_bind, run_und hd, Result.andThen_ok, ha]
  cases d <;> rfl
theorem run_sizeOf (h : tiOf P t = some ti) (w : World) : (sizeOf t).run P w = .ok ti.size w := by
  obtain ⟨i, d, z, hi, hd, _, _, hs, _⟩ := tiOf_spec h
  simp [sizeOf, run_typeInfo hi, hs]
end

/-- Scalars' cells. -/
theorem scal_rep {sg : Nat → Option Addr} {w : World} {S : Nat → Nat → Prop} {v : Value} {x : PV} (h : scal v = some x) : Rep sg w S x v ∧ v.oneCell = true ∧ x.cells = [x] ∧ v.cells = #[v] := by
  unfold scal at h
  split at h <;> first | (cases h; done) | skip
  all_goals (simp only [Option.some.injEq] at h; subst h)
  · exact ⟨.bool _, rfl, rfl, rfl⟩
  · exact ⟨.int _ _, rfl, rfl, rfl⟩
  · exact ⟨.str _ _ rfl, rfl, rfl, rfl⟩
  · exact ⟨.nilp, rfl, rfl, rfl⟩
  · exact ⟨.nilS _ (by simp), rfl, rfl, rfl⟩
  · exact ⟨.nilmap, rfl, rfl, rfl⟩
  · exact ⟨.nilfn, rfl, rfl, rfl⟩
  · exact ⟨.nilif, rfl, rfl, rfl⟩

theorem scals_spec {l : List Value} {xs : List PV} (h : scals l = some xs) : l.length = xs.length ∧ ∀ (i : Nat) (v : Value) (x : PV), l[i]? = some v → xs[i]? = some x → scal v = some x := by
  induction l generalizing xs with
  | nil => simp [scals] at h; subst h; exact ⟨rfl, by simp⟩
  | cons a r ih =>
    simp only [scals] at h
    split at h
    · rename_i x ys hx hys
      simp only [Option.some.injEq] at h
      subst h
      obtain ⟨h1, h2⟩ := ih hys
      refine ⟨by simp [h1], ?_⟩
      intro i v y hv hy
      cases i with
      | zero => simp at hv hy; subst hv; subst hy; exact hx
      | succ i => simp at hv hy; exact h2 i v y hv hy
    · cases h

theorem pvOf_rep {sg : Nat → Option Addr} {w : World} {S : Nat → Nat → Prop} {v : Value} {x : PV} (h : pvOf v = some x) : Rep sg w S x v := by
  unfold pvOf at h
  split at h
  · rename_i cs
    simp only [Option.map_eq_some_iff] at h
    obtain ⟨xs, hxs, rfl⟩ := h
    obtain ⟨h1, h2⟩ := scals_spec hxs
    have := Rep.agg (sg := sg) (w := w) (S := S) xs cs.toList h1
      (fun i v hv => by
        have hi : i < xs.length := by rw [← h1]; exact (List.getElem?_eq_some_iff.1 hv).1
        exact (scal_rep (sg := sg) (w := w) (S := S) (h2 i v xs[i] hv (List.getElem?_eq_getElem hi))).2.1)
      (fun i c v hc hv => (scal_rep (h2 i v c hv hc)).1)
    simpa using this
  · exact (scal_rep h).1

section
variable {k : K} {X : XR} {w : World} {cx : Cx} {fs : FS} {a : Act}

theorem FR.glob (ok : KOk k) (fr : FR k X w cx fs a) {g : Nat} {cs : List PV} (h : k.E.G g = some cs) : Rep k.sg w cx.S (.pref cs 0) (.pointer (some ⟨g, 0, none⟩)) := by
  obtain ⟨hg, cv, h1, h2⟩ := ok.gl g cs h
  have hcell : ∀ b i, b < k.base → cellAt w b i = cellAt k.w0 b i := fun b i hb => cellAt_of_heap (fr.pre b hb)
  have := Rep.pref (sg := k.sg) (w := w) (S := cx.S) cs 0 g 0 cv
    (fun i c hc => ⟨fr.preS g hg _, by rw [Nat.zero_add, hcell g i hg]; exact (h1 i c hc).1, (h1 i c hc).2⟩)
    (fun i c hc => (h2 i c hc).mono (fun b i hb => fr.preS b hb i) (fun b i v hb hv => by rw [hcell b i hb]; exact hv))
  simpa using this

theorem FR.eval (ok : KOk k) (fr : FR k X w cx fs a) {x : Operand} {v : V} (h : evalO k.E fs.env x = some v) : VR k.sg w cx v (a.eval x) := by
  unfold evalO at h
  split at h
  · rename_i t
    have ht' : t < a.tmps.size := fr.len t v h
    have he : a.eval (.tmp t) = a.tmps[t] := by simp [Act.eval, Array.getD, ht']
    rw [he]
    exact fr.env t v _ h (by simp [ht'])
  · rename_i c
    simp only [Option.map_eq_some_iff] at h
    obtain ⟨x, hx, rfl⟩ := h
    exact .p _ _ (pvOf_rep hx)
  · rename_i g
    simp only [Option.map_eq_some_iff] at h
    obtain ⟨cs, hcs, rfl⟩ := h
    exact .p _ _ (fr.glob ok hcs)
  · rename_i f
    simp only [Option.some.injEq] at h
    subst h
    have := Rep.func (sg := k.sg) (w := w) (S := cx.S) (.func f) [] [] [] [] rfl rfl (by simp) (by simp)
    exact .p _ _ this
end

/-- Cells side by side with what they stand for. -/
def CR (k : K) (w : World) (cx : Cx) (cs : List V) (l : List Value) : Prop :=
  l.length = cs.length ∧ (∀ (i : Nat) (v : Value), l[i]? = some v → v.oneCell = true) ∧ ∀ (i : Nat) (c : V) (v : Value), cs[i]? = some c → l[i]? = some v → VR k.sg w cx c v

/-- A value's cells. -/
theorem VR.cells {k : K} {w : World} {cx : Cx} {v : V} {c : Value} (h : VR k.sg w cx v c) (hv : okTop v = true) : CR k w cx v.cells c.cells.toList := by
  have one : ∀ {v : V} {c : Value}, VR k.sg w cx v c → v.cells = [v] → c.cells = #[c] → c.oneCell = true → CR k w cx v.cells c.cells.toList := by
    intro v c h e1 e2 e3
    rw [e1, e2]
    refine ⟨rfl, ?_, ?_⟩
    · intro i v hv; cases i <;> simp at hv; subst hv; exact e3
    · intro i x y hx hy; cases i <;> simp at hx hy; subst hx; subst hy; exact h
  have h0 := h
  cases h with
  | p x _ h =>
    cases h with
    | any v => simp [okTop] at hv
    | tuple cs l hl hr => simp [okTop] at hv
    | agg cs l hl ho hr =>
      refine ⟨by simp [V.cells, PV.cells, Value.cells, hl], ?_, ?_⟩
      · intro i v hv; exact ho i v (by simpa [Value.cells] using hv)
      · intro i c v hc hv
        simp only [V.cells, PV.cells, List.getElem?_map, Option.map_eq_some_iff] at hc
        obtain ⟨c', hc', rfl⟩ := hc
        exact .p _ _ (hr i c' v hc' (by simpa [Value.cells] using hv))
    | _ => exact one h0 rfl rfl rfl
  | agg cs l hl ho hr =>
    exact ⟨by simp [V.cells, Value.cells, hl], fun i v hv => ho i v (by simpa [Value.cells] using hv), fun i c v hc hv => hr i c v hc (by simpa [Value.cells] using hv)⟩
  | tuple cs l hl hr => simp [okTop] at hv
  | ptr r off a hal h => exact one (.ptr r off a hal h) rfl rfl rfl
  | vptr r n i off a hal h => exact one (.vptr r n i off a hal h) rfl rfl rfl
  | vec r n a cap hal h => exact one (.vec r n a cap hal h) rfl rfl rfl
  | map r b hal h => exact one (.map r b hal h) rfl rfl rfl
  | func fn a b x y hx hy ha hb => exact one (.func fn a b x y hx hy ha hb) rfl rfl rfl

theorem unp_spec {cs : List V} {ps : List PV} (h : unp cs = some ps) : cs = ps.map .p := by
  induction cs generalizing ps with
  | nil => simp [unp] at h; subst h; rfl
  | cons v r ih =>
    simp only [unp] at h
    split at h
    · rename_i x xs hx hxs
      simp only [Option.some.injEq] at h
      subst h
      cases v <;> simp [V.pv] at hx
      subst hx
      simp [ih hxs]
    · cases h

/-- Cells as one struct. -/
theorem CR.mkAgg {k : K} {w : World} {cx : Cx} {cs : List V} {l : List Value} (h : CR k w cx cs l) : VR k.sg w cx (mkAgg cs) (.agg ⟨l⟩) := by
  unfold Go.AE.mkAgg
  split
  · rename_i ps hps
    have := unp_spec hps; subst this
    refine .p _ _ (.agg ps l (by simpa using h.1) h.2.1 ?_)
    intro i c v hc hv
    have := h.2.2 i (.p c) v (by simp [hc]) hv
    cases this with | p _ _ h => exact h
  · exact .agg cs l h.1 h.2.1 h.2.2

theorem tup_rep {k : K} {w : World} {cx : Cx} {cs : List V} {l : List Value} (h1 : l.length = cs.length)
    (h2 : ∀ (i : Nat) (c : V) (v : Value), cs[i]? = some c → l[i]? = some v → VR k.sg w cx c v) : VR k.sg w cx (mkTup cs) (.tuple ⟨l⟩) := by
  unfold mkTup
  split
  · rename_i ps hps
    have := unp_spec hps; subst this
    refine .p _ _ (.tuple ps l (by simpa using h1) ?_)
    intro i c v hc hv
    have := h2 i (.p c) v (by simp [hc]) hv
    cases this with | p _ _ h => exact h
  · exact .tuple cs l h1 h2

/-- Part of cells. -/
theorem CR.sub {k : K} {w : World} {cx : Cx} {cs : List V} {l : List Value} (h : CR k w cx cs l) (off n : Nat) : CR k w cx ((cs.drop off).take n) ((l.drop off).take n) := by
  refine ⟨by simp [h.1], ?_, ?_⟩
  · intro i v hv
    simp only [List.getElem?_take, List.getElem?_drop] at hv
    split at hv
    · exact h.2.1 _ v hv
    · cases hv
  · intro i c v hc hv
    simp only [List.getElem?_take, List.getElem?_drop] at hc hv
    split at hv
    · rename_i hi
      simp only [hi, if_true] at hc
      exact h.2.2 _ c v hc hv
    · cases hv

/-- A variable read: of a struct its cells, of another its one. -/
theorem run_loadVar {P : Program} {t : Nat} {ti : TI} (ht : tiOf P t = some ti) (w : World) (b o : Nat) (l : List Value) (h : ∀ (i : Nat) (v : Value), l[i]? = some v → cellAt w b (o + i) = some v)
    (hl : l.length = ti.size) (hag : ti.ag = false → ti.size = 1) : (loadVar t ⟨b, o, none⟩).run P w = .ok (if ti.ag then .agg ⟨l⟩ else l.getD 0 undef) w := by
  simp only [loadVar, Sem.run_bind, run_isAgg ht, Result.andThen_ok]
  cases hg : ti.ag with
  | true =>
    simp only [if_true, Sem.run_bind, run_sizeOf ht, Result.andThen_ok]
    have := run_loadCells_list (P := P) w ⟨b, o, none⟩ l (fun j v hv => by rw [Addr_add]; exact h j v hv)
    rw [hl] at this
    simp [this]
  | false =>
    have h1 := hag hg
    have h0 : l[0]? = some (l.getD 0 undef) := by
      cases l with
      | nil => simp at hl; omega
      | cons => rfl
    have hc := h 0 _ h0
    simp only [cellAt, Nat.add_zero] at hc
    simp [hc]

/-- Types of one cell. -/
theorem ag_false {P : Program} {t : Nat} {ti : TI} (ht : tiOf P t = some ti) (hag : ti.ag = false) : ti.size = 1 := by
  obtain ⟨i, d, z, _, _, _, hz, hs, _, ha, _, hv, hl, _⟩ := tiOf_spec ht
  rw [hag] at ha
  have : z.cells.toList.length = 1 := by
    cases z <;> first | rfl | (simp [isAggV, ← ha] at hv)
  rw [hs, ← hl, ← (scals_spec hz).1, this]


section
variable {k : K} {X : XR} {w : World} {cx : Cx} {fs : FS} {a : Act}

theorem readP_sound {t : Nat} {ti : TI} (ht : tiOf k.E.P t = some ti) {cs : List PV} {off b o : Nat} {cv : Nat → Value}
    (hc : ∀ (i : Nat) (c : PV), cs[i]? = some c → cellAt w b (o + i) = some (cv i) ∧ (cv i).oneCell = true ∧ Rep k.sg w cx.S c (cv i)) {v : V} (h : readP ti cs off = some v) :
    ∃ c, (loadVar t ⟨b, o + off, none⟩).run k.E.P w = .ok c w ∧ VR k.sg w cx v c := by
  unfold readP at h
  cases hag : ti.ag with
  | true =>
    rw [hag] at h
    simp only [if_true] at h
    split at h
    · rename_i hle
      simp only [Option.some.injEq] at h
      subst h
      have hcell : ∀ i, i < ti.size → ∃ c, cs[off + i]? = some c := fun i hi => ⟨_, List.getElem?_eq_getElem (by omega)⟩
      refine ⟨.agg ⟨(List.range ti.size).map fun i => cv (off + i)⟩, ?_, ?_⟩
      · rw [run_loadVar (l := (List.range ti.size).map fun i => cv (off + i)) ht w b (o + off) ?_ (by simp) (fun h0 => by rw [hag] at h0; cases h0)]
        · simp [hag]
        · intro i v hv
          simp only [List.getElem?_map, Option.map_eq_some_iff] at hv
          obtain ⟨j, hj, rfl⟩ := hv
          have hi : i < ti.size := by have := (List.getElem?_eq_some_iff.1 hj).1; simpa using this
          have : j = i := by rw [List.getElem?_range hi] at hj; simpa using hj.symm
          subst this
          obtain ⟨c, hcc⟩ := hcell j hi
          rw [Nat.add_assoc]
          exact (hc _ c hcc).1
      · refine .p _ _ (.agg _ _ (by simp; omega) ?_ ?_)
        · intro i v hv
          simp only [List.getElem?_map, Option.map_eq_some_iff] at hv
          obtain ⟨j, hj, rfl⟩ := hv
          have hi : i < ti.size := by have := (List.getElem?_eq_some_iff.1 hj).1; simpa using this
          have : j = i := by rw [List.getElem?_range hi] at hj; simpa using hj.symm
          subst this
          obtain ⟨c, hcc⟩ := hcell j hi
          exact (hc _ c hcc).2.1
        · intro i c v hcc hv
          simp only [List.getElem?_map, Option.map_eq_some_iff] at hv
          obtain ⟨j, hj, rfl⟩ := hv
          have hi : i < ti.size := by have := (List.getElem?_eq_some_iff.1 hj).1; simpa using this
          have : j = i := by rw [List.getElem?_range hi] at hj; simpa using hj.symm
          subst this
          simp only [List.getElem?_take, List.getElem?_drop, hi, if_true] at hcc
          exact (hc _ c hcc).2.2
    · cases h
  | false =>
    rw [hag] at h
    simp only [Bool.false_eq_true, if_false] at h
    split at h
    · rename_i c hcc
      simp only [Option.some.injEq] at h
      subst h
      obtain ⟨h1, h2, h3⟩ := hc off c hcc
      refine ⟨cv off, ?_, .p _ _ h3⟩
      rw [run_loadVar (l := [cv off]) ht w b (o + off) ?_ (by simp [ag_false ht hag]) (fun _ => ag_false ht hag)]
      · simp [hag]
      · intro i v hv
        cases i with
        | zero => simp at hv; subst hv; simpa using h1
        | succ i => simp at hv
    · cases h

theorem readV_sound {t : Nat} {ti : TI} (ht : tiOf k.E.P t = some ti) {cs : List V} {off b : Nat} {l : List Value} (hcr : CR k w cx cs l)
    (hc : ∀ (i : Nat) (v : Value), l[i]? = some v → cellAt w b i = some v) {v : V} (h : readV ti cs off = some v) :
    ∃ c, (loadVar t ⟨b, off, none⟩).run k.E.P w = .ok c w ∧ VR k.sg w cx v c := by
  unfold readV at h
  cases hag : ti.ag with
  | true =>
    rw [hag] at h
    simp only [if_true] at h
    split at h
    · rename_i hle
      simp only [Option.some.injEq] at h
      subst h
      refine ⟨.agg ⟨(l.drop off).take ti.size⟩, ?_, (hcr.sub off ti.size).mkAgg⟩
      rw [run_loadVar (l := (l.drop off).take ti.size) ht w b off ?_ (by simp [hcr.1]; omega) (fun h0 => by rw [hag] at h0; cases h0)]
      · simp [hag]
      · intro i v hv
        simp only [List.getElem?_take, List.getElem?_drop] at hv
        split at hv
        · exact hc _ v hv
        · cases hv
    · cases h
  | false =>
    rw [hag] at h
    simp only [Bool.false_eq_true, if_false] at h
    have hlt : off < l.length := by rw [hcr.1]; exact (List.getElem?_eq_some_iff.1 h).1
    have hl : l[off]? = some l[off] := List.getElem?_eq_getElem hlt
    refine ⟨l[off], ?_, hcr.2.2 off v _ h hl⟩
    rw [run_loadVar (l := [l[off]]) ht w b off ?_ (by simp [ag_false ht hag]) (fun _ => ag_false ht hag)]
    · simp [hag]
    · intro i v hv
      cases i with
      | zero => simp at hv; subst hv; simpa using hc _ _ hl
      | succ i => simp at hv

/-- An object that cells are, with what lies there. -/
theorem FR.cells (fr : FR k X w cx fs a) {r : Ref} {cs : List V} (h : fs.obj r = some (.cells cs)) (hal : cx.al r) :
    ∃ (b T : Nat) (l : List Value), cx.blk r = some b ∧ w.heap[b]? = some (.cells ⟨l⟩ T (0, 0)) ∧ CR k w cx cs l ∧ (∀ i, ¬ cx.S b i) ∧
      ∀ (i : Nat) (v : Value), l[i]? = some v → cellAt w b i = some v := by
  obtain ⟨_, b, T, l, hb, hh, hl, ho, hr, hS⟩ := fr.obj r _ h hal
  exact ⟨b, T, l, hb, hh, ⟨hl, ho, hr⟩, hS, fun i v hv => by simp [cellAt, World.cell?, hh, hv]⟩

/-- An element of a growing slice: its cells. -/
theorem FR.elem (fr : FR k X w cx fs a) {r : Ref} {et : Option Nat} {es : List PV} {stab : Nat} (h : fs.obj r = some (.vec et es stab)) (hal : cx.al r) {i : Nat} {x : PV} (hx : es[i]? = some x) :
    ∃ (q : VC) (b e : Nat) (te : TI), cx.vec r = some q ∧ q.len = es.length ∧ q.blk = some b ∧ et = some e ∧ k.E.T e = some te ∧ q.sz = te.size ∧ 0 < q.sz ∧ x.cells.length = q.sz ∧
      ∃ cv : Nat → Value, ∀ (j : Nat) (c : PV), x.cells[j]? = some c → cellAt w b (i * q.sz + j) = some (cv j) ∧ (cv j).oneCell = true ∧ Rep k.sg w cx.S c (cv j) ∧ (i < stab → cx.S b (i * q.sz + j)) := by
  obtain ⟨_, q, hq, hlen, hst, hm⟩ := fr.obj r _ h hal
  cases hb : q.blk with
  | none => rw [hb] at hm; simp only at hm; rw [hm.1] at hx; simp at hx
  | some b =>
    rw [hb] at hm
    simp only at hm
    obtain ⟨e, te, l, he, hte, hsz, hpos, hh, hcap, hle, hmx, ho, hs, hr, hS, _⟩ := hm
    refine ⟨q, b, e, te, hq, hlen, hb, he, hte, hsz, hpos, hs i x hx, fun j => l.getD (i * q.sz + j) undef, fun j c hc => ?_⟩
    obtain ⟨v, hv, hrep⟩ := hr i x j c hx hc
    have hd : l.getD (i * q.sz + j) undef = v := by simp [List.getD, hv]
    simp only [hd]
    refine ⟨by simp [cellAt, World.cell?, hh, hv], ho _ _ hv, hrep, fun hi => hS _ ?_⟩
    have hj : j < q.sz := by rw [← hs i x hx]; exact (List.getElem?_eq_some_iff.1 hc).1
    have h1 : (i + 1) * q.sz ≤ stab * q.sz := Nat.mul_le_mul_right _ (by omega)
    rw [Nat.add_mul, Nat.one_mul] at h1
    omega

theorem load_sound (ok : KOk k) (fr : FR k X w cx fs a) {t : Nat} {ti : TI} (hT : k.E.T t = some ti) {p v : V} {ca : Value} (hp : VR k.sg w cx p ca) (h : loadV fs ti p = some v) :
    ∃ c, (Instr.loadAt t ca).run k.E.P w = .ok c w ∧ VR k.sg w cx v c := by
  have ht := ok.ty t ti hT
  unfold loadV at h
  split at h
  · rename_i cs off
    cases hp with | p _ _ hp =>
    cases hp with | pref _ _ b o cv hc hr =>
    obtain ⟨c, h1, h2⟩ := readP_sound (cx := cx) ht (fun i c hcc => ⟨(hc i c hcc).2.1, (hc i c hcc).2.2, hr i c hcc⟩) h
    exact ⟨c, by simpa [Instr.loadAt, Instr.sureAddr] using h1, h2⟩
  · rename_i r off
    split at h
    · rename_i cs ho
      cases hp with | ptr _ _ ad hal ha =>
      obtain ⟨b, T, l, hb, hh, hcr, hS, hcell⟩ := fr.cells ho hal
      have := ha b hb; subst this
      obtain ⟨c, h1, h2⟩ := readV_sound ht hcr hcell h
      exact ⟨c, by simpa [Instr.loadAt, Instr.sureAddr] using h1, h2⟩
    · cases h
  · rename_i r n i off
    split at h
    · rename_i et es stab ho
      split at h
      · rename_i hn
        split at h
        · rename_i e he
          cases hp with | vptr _ _ _ _ ad hal ha =>
          obtain ⟨q, b, _, _, hq, hlen, hb, _, _, _, _, _, cv, hcv⟩ := fr.elem ho hal he
          obtain ⟨b', hb', rfl⟩ := (ha q hq).2 (by omega)
          rw [hb] at hb'
          have : b = b' := by simpa using hb'
          subst this
          obtain ⟨c, h1, h2⟩ := readP_sound (cx := cx) ht (fun j c hcc => ⟨(hcv j c hcc).1, (hcv j c hcc).2.1, (hcv j c hcc).2.2.1⟩) h
          exact ⟨c, by simpa [Instr.loadAt, Instr.sureAddr] using h1, h2⟩
        · cases h
      · cases h
    · cases h
  · cases h
end


theorem mapO_spec {α β : Type} {f : α → Option β} {l : List α} {l' : List β} (h : mapO f l = some l') :
    l'.length = l.length ∧ ∀ (i : Nat) (x : α) (y : β), l[i]? = some x → l'[i]? = some y → f x = some y := by
  induction l generalizing l' with
  | nil => simp [mapO] at h; subst h; exact ⟨rfl, by simp⟩
  | cons a r ih =>
    simp only [mapO] at h
    split at h
    · rename_i x xs hx hxs
      simp only [Option.some.injEq] at h
      subst h
      obtain ⟨h1, h2⟩ := ih hxs
      refine ⟨by simp [h1], ?_⟩
      intro i u v hu hv
      cases i with
      | zero => simp at hu hv; subst hu; subst hv; exact hx
      | succ i => simp at hu hv; exact h2 i u v hu hv
    · cases h

section
variable {k : K} {X : XR} {w : World} {cx : Cx} {fs : FS} {a : Act}

/-- A growing slice, as a list. -/
theorem FR.list (fr : FR k X w cx fs a) {r : Ref} {et : Option Nat} {es : List PV} (h : fs.obj r = some (.vec et es es.length)) (hal : cx.al r) :
    ∃ q, cx.vec r = some q ∧ q.len = es.length ∧ Rep k.sg w cx.S (.list .unk es) q.val := by
  obtain ⟨_, q, hq, hlen, hst, hm⟩ := fr.obj r _ h hal
  refine ⟨q, hq, hlen, ?_⟩
  cases hb : q.blk with
  | none =>
    rw [hb] at hm
    simp only at hm
    obtain ⟨rfl, hc⟩ := hm
    simp only [VC.val, hb, Option.map_none, hlen, hc, List.length_nil]
    exact .nilS _ (by simp)
  | some b =>
    rw [hb] at hm
    simp only at hm
    obtain ⟨e, te, l, he, hte, hsz, hpos, hh, hcap, hle, hmx, ho, hs, hr, hS, _⟩ := hm
    simp only [VC.val, hb, Option.map_some, hlen]
    have key : ∀ (i : Nat) (x : PV) (j : Nat) (c : PV), es[i]? = some x → x.cells[j]? = some c →
        cx.S b (0 + (i * q.sz + j)) ∧ cellAt w b (0 + (i * q.sz + j)) = some (l.getD (i * q.sz + j) undef) ∧ (l.getD (i * q.sz + j) undef).oneCell = true ∧ Rep k.sg w cx.S c (l.getD (i * q.sz + j) undef) := by
      intro i x j c hx hc
      obtain ⟨v, hv, hrep⟩ := hr i x j c hx hc
      have hd : l.getD (i * q.sz + j) undef = v := by simp [List.getD, hv]
      rw [hd, Nat.zero_add]
      refine ⟨hS _ ?_, by simp [cellAt, World.cell?, hh, hv], ho _ _ hv, hrep⟩
      have hi : i < es.length := (List.getElem?_eq_some_iff.1 hx).1
      have hj : j < q.sz := by rw [← hs i x hx]; exact (List.getElem?_eq_some_iff.1 hc).1
      have h1 : (i + 1) * q.sz ≤ es.length * q.sz := Nat.mul_le_mul_right _ (by omega)
      rw [Nat.add_mul, Nat.one_mul] at h1
      omega
    exact .list .unk es b 0 q.cap q.sz (fun i j => l.getD (i * q.sz + j) undef) (by simp) (by simp) hle hs
      (fun i x j c h1 h2 => ⟨(key i x j c h1 h2).1, (key i x j c h1 h2).2.1, (key i x j c h1 h2).2.2.1⟩) (fun i x j c h1 h2 => (key i x j c h1 h2).2.2.2)

theorem expS_sound (fr : FR k X w cx fs a) {v v' : V} {c : Value} (hv : VR k.sg w cx v c) (h : expS fs v = some v') : VR k.sg w cx v' c := by
  unfold expS at h
  split at h
  · simp only [Option.some.injEq] at h; subst h; exact hv
  · simp only [Option.some.injEq] at h; subst h; exact hv
  · simp only [Option.some.injEq] at h; subst h; exact hv
  · rename_i r n
    split at h
    · rename_i et es stab ho
      split at h
      · rename_i hc
        obtain ⟨hn, hs⟩ := hc
        simp only [Option.some.injEq] at h
        subst h
        subst hs
        subst hn
        cases hv with | vec _ _ ad cap hal ha =>
        obtain ⟨q, hq, hlen, hrep⟩ := fr.list ho hal
        have := (ha q hq).2 hlen
        rw [this]
        exact .p _ _ hrep
      · cases h
    · cases h
  · split at h
    · simp only [Option.some.injEq] at h; subst h; exact hv
    · cases h
  · cases h

theorem expA_sound (fr : FR k X w cx fs a) {v v' : V} {c : Value} (hv : VR k.sg w cx v c) (h : expA fs v = some v') : VR k.sg w cx v' c := by
  unfold expA at h
  split at h
  · rename_i cs
    simp only [Option.map_eq_some_iff] at h
    obtain ⟨cs', hcs, rfl⟩ := h
    obtain ⟨h1, h2⟩ := mapO_spec hcs
    cases hv with | agg _ l hl ho hr =>
    refine CR.mkAgg ⟨by rw [h1, hl], ho, ?_⟩
    intro i x v hx hv
    have hi : i < cs.length := by rw [← h1]; exact (List.getElem?_eq_some_iff.1 hx).1
    exact expS_sound fr (hr i cs[i] v (List.getElem?_eq_getElem hi) hv) (h2 i cs[i] x (List.getElem?_eq_getElem hi) hx)
  · exact expS_sound fr hv h

theorem pureA_sound (fr : FR k X w cx fs a) {v : V} {x : PV} {c : Value} (hv : VR k.sg w cx v c) (h : pureA fs v = some x) : Rep k.sg w cx.S x c := by
  unfold pureA at h
  simp only [Option.bind_eq_some_iff] at h
  obtain ⟨v', h1, h2⟩ := h
  have := expA_sound fr hv h1
  cases v' <;> simp [V.pv] at h2
  subst h2
  cases this with | p _ _ h => exact h

theorem keepS_sound (fr : FR k X w cx fs a) {v v' : V} {c : Value} (hv : VR k.sg w cx v c) (h : keepS fs v = some v') : VR k.sg w cx v' c := by
  unfold keepS at h
  split at h
  · simp only [Option.some.injEq] at h; subst h; exact hv
  · exact expA_sound fr hv h

theorem fldOf_spec {E : En} {t f off : Nat} {tu : TI} (h : fldOf E t f = some (off, tu)) :
    ∃ ti fs u, E.T t = some ti ∧ ti.und = .struct fs ∧ fs[f]? = some (off, u) ∧ E.T u = some tu ∧ tu.size ≠ 0 := by
  unfold fldOf at h
  split at h
  · rename_i ti hti
    split at h
    · rename_i fs hu
      split at h
      · rename_i o u hfu
        split at h
        · rename_i tu' htu
          split at h
          · cases h
          · rename_i h0
            simp only [Option.some.injEq, Prod.mk.injEq] at h
            obtain ⟨rfl, rfl⟩ := h
            exact ⟨ti, fs, u, hti, hu, hfu, htu, h0⟩
        · cases h
      · cases h
    · cases h
  · cases h

/-- A struct type's fields, in the program's own table. -/
theorem und_struct {P : Program} {t : Nat} {ti : TI} (ht : tiOf P t = some ti) {fs : List (Nat × Nat)} (h : ti.und = .struct fs) :
    ∃ l : Array Field, P.underlying t = some (.struct l) ∧ fs = l.toList.map fun f => (f.offset, f.type) := by
  obtain ⟨i, d, z, _, hd, _, _, _, _, _, hu, _⟩ := tiOf_spec ht
  rw [h] at hu
  cases d with
  | struct l => simp only [undOf, Und.struct.injEq] at hu; exact ⟨l, hd, hu⟩
  | _ => simp [undOf] at hu

theorem addOff_sound {v v' : V} {c : Value} (hv : VR k.sg w cx v c) {d : Nat} (h : addOff d v = some v') : ∃ ad : Addr, c = .pointer (some ad) ∧ VR k.sg w cx v' (.pointer (some (ad.add d))) := by
  unfold addOff at h
  split at h
  · rename_i cs off
    simp only [Option.some.injEq] at h; subst h
    cases hv with | p _ _ hp =>
    cases hp with | pref _ _ b o cv hc hr =>
    refine ⟨_, rfl, ?_⟩
    rw [Addr_add, Nat.add_assoc]
    exact .p _ _ (.pref cs _ b o cv hc hr)
  · rename_i r off
    simp only [Option.some.injEq] at h; subst h
    cases hv with | ptr _ _ ad hal ha =>
    refine ⟨ad, rfl, .ptr r _ _ hal fun b hb => ?_⟩
    rw [ha b hb, Addr_add]
  · rename_i r n i off
    simp only [Option.some.injEq] at h; subst h
    cases hv with | vptr _ _ _ _ ad hal ha =>
    refine ⟨ad, rfl, .vptr r n i _ _ hal fun q hq => ⟨(ha q hq).1, fun e => ?_⟩⟩
    obtain ⟨b, hb, rfl⟩ := (ha q hq).2 e
    exact ⟨b, hb, by rw [Addr_add, Nat.add_assoc]⟩
  · cases h

theorem fieldAddr_sound (ok : KOk k) {t f off : Nat} {tu : TI} (hf : fldOf k.E t f = some (off, tu)) {v v' : V} {c : Value} (hv : VR k.sg w cx v c) (h : addOff off v = some v') :
    ∃ c', (Instr.fieldAt t c f).run k.E.P w = .ok c' w ∧ VR k.sg w cx v' c' := by
  obtain ⟨ti, fl, u, hti, hu, hfu, htu, h0⟩ := fldOf_spec hf
  obtain ⟨l, hl, rfl⟩ := und_struct (ok.ty t ti hti) hu
  obtain ⟨ad, rfl, hv'⟩ := addOff_sound hv h
  simp only [List.getElem?_map, Option.map_eq_some_iff, Prod.mk.injEq] at hfu
  obtain ⟨fd, hfd, rfl, rfl⟩ := hfu
  have hfd' : l[f]? = some fd := by simpa using hfd
  refine ⟨_, ?_, hv'⟩
  simp [Instr.fieldAt, run_und hl, hfd', Instr.sureAddr, fieldPlace, run_sizeOf (ok.ty _ _ htu), h0]

/-- Part of a struct's value. -/
theorem partV_sound {tu : TI} {u : Nat} (hu : tiOf k.E.P u = some tu) {off : Nat} {v v' : V} {c : Value} (hv : VR k.sg w cx v c) (h : partV tu off v = some v') :
    ∃ cs c', c = .agg cs ∧ (part u cs off).run k.E.P w = .ok c' w ∧ VR k.sg w cx v' c' := by
  have main : ∀ {cs : List V} {l : List Value}, CR k w cx cs l → readV tu cs off = some v' → ∃ c', (part u ⟨l⟩ off).run k.E.P w = .ok c' w ∧ VR k.sg w cx v' c' := by
    intro cs l hcr h
    unfold readV at h
    cases hag : tu.ag with
    | true =>
      rw [hag] at h
      simp only [if_true] at h
      split at h
      · simp only [Option.some.injEq] at h; subst h
        refine ⟨.agg ⟨(l.drop off).take tu.size⟩, ?_, (hcr.sub off tu.size).mkAgg⟩
        have : (⟨l⟩ : Array Value).extract off (off + tu.size) = ⟨(l.drop off).take tu.size⟩ := by
          apply Array.ext'; simp
        simp [part, run_isAgg hu, hag, run_sizeOf hu]
      · cases h
    | false =>
      rw [hag] at h
      simp only [Bool.false_eq_true, if_false] at h
      have hlt : off < l.length := by rw [hcr.1]; exact (List.getElem?_eq_some_iff.1 h).1
      have hl : l[off]? = some l[off] := List.getElem?_eq_getElem hlt
      refine ⟨l[off], ?_, hcr.2.2 off v' _ h hl⟩
      simp [part, run_isAgg hu, hag, hl]
  unfold partV at h
  split at h
  · rename_i cs
    have hcr := hv.cells rfl
    cases hv with | p _ _ hp =>
    cases hp with | agg _ l hl ho hr =>
    have h' : readV tu (cs.map .p) off = some v' := by
      unfold readP at h
      unfold readV
      cases hag : tu.ag with
      | true =>
        rw [hag] at h
        simp only [if_true, List.length_map] at h ⊢
        split at h
        · rename_i hle
          rw [if_pos hle]
          have : ((cs.map V.p).drop off).take tu.size = ((cs.drop off).take tu.size).map V.p := by simp [List.map_drop, List.map_take]
          rw [this]
          have un : ∀ q : List PV, unp (q.map .p) = some q := by
            intro q; induction q with
            | nil => rfl
            | cons x r ih => simp [unp, V.pv, ih]
          rw [show mkAgg (((cs.drop off).take tu.size).map V.p) = .p (.agg ((cs.drop off).take tu.size)) from by simp only [mkAgg, un]]
          exact h
        · cases h
      | false =>
        rw [hag] at h
        simp only [Bool.false_eq_true, if_false] at h ⊢
        split at h
        · rename_i c hc
          simp only [Option.some.injEq] at h; subst h
          simp [hc]
        · cases h
    obtain ⟨c', h1, h2⟩ := main (l := l) (by simpa [V.cells, PV.cells, Value.cells] using hcr) h'
    exact ⟨_, c', rfl, h1, h2⟩
  · rename_i cs
    have hcr := hv.cells rfl
    cases hv with | agg _ l hl ho hr =>
    obtain ⟨c', h1, h2⟩ := main (l := l) (by simpa [V.cells, Value.cells] using hcr) h
    exact ⟨_, c', rfl, h1, h2⟩
  · cases h

theorem field_sound (ok : KOk k) {t f off : Nat} {tu : TI} (hf : fldOf k.E t f = some (off, tu)) {v v' : V} {c : Value} (hv : VR k.sg w cx v c) (h : partV tu off v = some v') :
    ∃ c', (Instr.field t c f).run k.E.P w = .ok c' w ∧ VR k.sg w cx v' c' := by
  obtain ⟨ti, fl, u, hti, hu, hfu, htu, h0⟩ := fldOf_spec hf
  obtain ⟨l, hl, rfl⟩ := und_struct (ok.ty t ti hti) hu
  simp only [List.getElem?_map, Option.map_eq_some_iff, Prod.mk.injEq] at hfu
  obtain ⟨fd, hfd, rfl, rfl⟩ := hfu
  have hfd' : l[f]? = some fd := by simpa using hfd
  obtain ⟨cs, c', rfl, h1, h2⟩ := partV_sound (ok.ty _ _ htu) hv h
  refine ⟨c', ?_, h2⟩
  simp [Instr.field, run_und hl, hfd', asAgg, h1]
end

end Go.AE

namespace Go.AE
open Go

section
variable {P : Program} {t : Nat} {ti : TI}
theorem und_slice (ht : tiOf P t = some ti) {e : Nat} (h : ti.und = .slice e) : P.underlying t = some (.slice e) := by
  obtain ⟨i, d, z, _, hd, _, _, _, _, _, hu, _⟩ := tiOf_spec ht
  rw [h] at hu
  cases d with
  | slice l => simp only [undOf, Und.slice.injEq] at hu; subst hu; exact hd
  | _ => simp [undOf] at hu
theorem und_arr (ht : tiOf P t = some ti) {n e : Nat} (h : ti.und = .arr n e) : P.underlying t = some (.array n e) := by
  obtain ⟨i, d, z, _, hd, _, _, _, _, _, hu, _⟩ := tiOf_spec ht
  rw [h] at hu
  cases d with
  | array n l => simp only [undOf, Und.arr.injEq] at hu; obtain ⟨rfl, rfl⟩ := hu; exact hd
  | _ => simp [undOf] at hu
theorem und_str (ht : tiOf P t = some ti) (h : ti.und = .str) : P.underlying t = some .string := by
  obtain ⟨i, d, z, _, hd, _, _, _, _, _, hu, _⟩ := tiOf_spec ht
  rw [h] at hu
  cases d with
  | string => exact hd
  | _ => simp [undOf] at hu
theorem und_int (ht : tiOf P t = some ti) {k : IntKind} (h : ti.und = .int k) : P.underlying t = some (.int k) := by
  obtain ⟨i, d, z, _, hd, _, _, _, _, _, hu, _⟩ := tiOf_spec ht
  rw [h] at hu
  cases d with
  | int k => simp only [undOf, Und.int.injEq] at hu; subst hu; exact hd
  | _ => simp [undOf] at hu
theorem und_bool (ht : tiOf P t = some ti) (h : ti.und = .bool) : P.underlying t = some .bool := by
  obtain ⟨i, d, z, _, hd, _, _, _, _, _, hu, _⟩ := tiOf_spec ht
  rw [h] at hu
  cases d with
  | bool => exact hd
  | _ => simp [undOf] at hu
theorem und_ptr (ht : tiOf P t = some ti) {e : Nat} (h : ti.und = .ptr e) : P.underlying t = some (.pointer e) := by
  obtain ⟨i, d, z, _, hd, _, _, _, _, _, hu, _⟩ := tiOf_spec ht
  rw [h] at hu
  cases d with
  | pointer l => simp only [undOf, Und.ptr.injEq] at hu; subst hu; exact hd
  | _ => simp [undOf] at hu
theorem und_map (ht : tiOf P t = some ti) {a b : Nat} (h : ti.und = .map a b) : P.underlying t = some (.map a b) := by
  obtain ⟨i, d, z, _, hd, _, _, _, _, _, hu, _⟩ := tiOf_spec ht
  rw [h] at hu
  cases d with
  | map n l => simp only [undOf, Und.map.injEq] at hu; obtain ⟨rfl, rfl⟩ := hu; exact hd
  | _ => simp [undOf] at hu
theorem und_iface (ht : tiOf P t = some ti) {b : Bool} (h : ti.und = .iface b) : ∃ ms, P.underlying t = some (.interface ms) ∧ b = !ms.isEmpty := by
  obtain ⟨i, d, z, _, hd, _, _, _, _, _, hu, _⟩ := tiOf_spec ht
  rw [h] at hu
  cases d with
  | interface ms => simp only [undOf, Und.iface.injEq] at hu; exact ⟨ms, hd, hu⟩
  | _ => simp [undOf] at hu
theorem und_func (ht : tiOf P t = some ti) (h : ti.und = .func) : ∃ a b c, P.underlying t = some (.func a b c) := by
  obtain ⟨i, d, z, _, hd, _, _, _, _, _, hu, _⟩ := tiOf_spec ht
  rw [h] at hu
  cases d with
  | func a b c => exact ⟨a, b, c, hd⟩
  | _ => simp [undOf] at hu
end

section
variable {k : K} {X : XR} {w : World} {cx : Cx} {fs : FS} {a : Act}

theorem idxOf_spec {v : V} {i : Int} (h : idxOf v = some i) {c : Value} (hv : VR k.sg w cx v c) : ∃ kk, c = .int kk i := by
  unfold idxOf at h
  split at h
  · simp only [Option.some.injEq] at h; subst h
    cases hv with | p _ _ hp => cases hp; exact ⟨_, rfl⟩
  · cases h

theorem indexAddr_sound (ok : KOk k) (fr : FR k X w cx fs a) {t : Nat} {x v' : V} {c : Value} {i : Int} {kk : IntKind} (hv : VR k.sg w cx x c) (h : indexAddrV k.E fs t x i = some v') :
    ∃ c', (Instr.indexAt t c (.int kk i)).run k.E.P w = .ok c' w ∧ VR k.sg w cx v' c' := by
  unfold indexAddrV at h
  split at h
  · cases h
  rename_i hneg
  have h0 : 0 ≤ i := by omega
  obtain ⟨n, rfl⟩ := Int.eq_ofNat_of_zero_le h0
  split at h
  · rename_i ti hti
    have ht := ok.ty t ti hti
    split at h
    · rename_i e kd es hu
      have hd := und_slice ht hu
      split at h
      · rename_i te el hte hel
        split at h
        · rename_i hsz
          simp only [Option.some.injEq] at h; subst h
          simp only [Int.toNat_natCast] at hel
          have hlt : n < es.length := (List.getElem?_eq_some_iff.1 hel).1
          cases hv with | p _ _ hp =>
          cases hp with
          | nilS => simp at hlt
          | list _ _ b o cap sz cv hk hl hcap hs hc hr =>
            have hsz' : sz = te.size := by rw [← hs n el hel, hsz]
            refine ⟨.pointer (some ⟨b, o + n * sz, none⟩), ?_, ?_⟩
            · simp [Instr.indexAt, asIntOf, run_und hd, run_sizeOf (ok.ty e te hte), hlt, Addr_add, hsz']
            · have := Rep.pref (sg := k.sg) (w := w) (S := cx.S) el.cells 0 b (o + n * sz) (cv n)
                (fun j c hcc => by have := hc n el j c hel hcc; rw [Nat.add_assoc]; exact this) (fun j c hcc => hr n el j c hel hcc)
              exact .p _ _ (by simpa using this)
        · cases h
      · cases h
    · rename_i e r m hu
      have hd := und_slice ht hu
      split at h
      · rename_i et es stab ho
        split at h
        · rename_i hm
          split at h
          · rename_i te el hte hel
            split at h
            · rename_i hsz
              simp only [Int.toNat_natCast] at hel h
              have hlt : n < es.length := (List.getElem?_eq_some_iff.1 hel).1
              cases hv with | vec _ _ ad cap hal ha =>
              obtain ⟨q, b, e', te', hq, hlen, hb, _, _, hqs, hpos, hxs, cv, hcv⟩ := fr.elem ho hal hel
              have hval := (ha q hq).2 (by omega)
              simp only [VC.val, hb, Option.map_some] at hval
              rw [hval]
              have hsz' : q.sz = te.size := by rw [← hxs, hsz]
              refine ⟨.pointer (some ⟨b, n * q.sz, none⟩), ?_, ?_⟩
              · have hlt' : n < q.len := by omega
                simp [Instr.indexAt, asIntOf, run_und hd, run_sizeOf (ok.ty e te hte), hlt', Addr_add, hsz']
              · split at h
                · rename_i hst
                  simp only [Option.some.injEq] at h; subst h
                  have := Rep.pref (sg := k.sg) (w := w) (S := cx.S) el.cells 0 b (n * q.sz) cv
                    (fun j c hcc => ⟨(hcv j c hcc).2.2.2 hst, (hcv j c hcc).1, (hcv j c hcc).2.1⟩) (fun j c hcc => (hcv j c hcc).2.2.1)
                  exact .p _ _ (by simpa using this)
                · simp only [Option.some.injEq] at h; subst h
                  refine .vptr r m n 0 _ hal fun q' hq' => ?_
                  rw [hq] at hq'
                  have : q = q' := by simpa using hq'
                  subst this
                  exact ⟨by omega, fun _ => ⟨b, hb, by simp⟩⟩
            · cases h
          · cases h
        · cases h
      · cases h
    · rename_i m e hu
      have hd := und_arr ht hu
      split at h
      · rename_i te hte
        split at h
        · rename_i hlt
          obtain ⟨ad, rfl, hv'⟩ := addOff_sound hv h
          refine ⟨_, ?_, hv'⟩
          have hlt' : n < m := by omega
          simp [Instr.indexAt, asIntOf, run_und hd, run_sizeOf (ok.ty e te hte), hlt', Instr.sureAddr]
        · cases h
      · cases h
    · cases h
  · cases h

theorem index_sound (ok : KOk k) {t : Nat} {x v' : V} {c : Value} {i : Int} {kk : IntKind} (hv : VR k.sg w cx x c) (h : indexV k.E t x i = some v') :
    ∃ c', (Instr.index t c (.int kk i)).run k.E.P w = .ok c' w ∧ VR k.sg w cx v' c' := by
  unfold indexV at h
  split at h
  · cases h
  rename_i hneg
  have h0 : 0 ≤ i := by omega
  obtain ⟨n, rfl⟩ := Int.eq_ofNat_of_zero_le h0
  split at h
  · rename_i ti hti
    have ht := ok.ty t ti hti
    split at h
    · rename_i s hu
      have hd := und_str ht hu
      split at h
      · rename_i b hb
        simp only [Option.some.injEq] at h; subst h
        simp only [Int.toNat_natCast] at hb
        cases hv with | p _ _ hp =>
        cases hp with | str bs _ hs =>
        subst hs
        refine ⟨.int .u8 b.toNat, ?_, .p _ _ (.int _ _)⟩
        have hb' : bs[n]? = some b := by
          have : n < bs.data.toList.length := (List.getElem?_eq_some_iff.1 hb).1
          have hlt : n < bs.size := by simpa using this
          rw [getElem?_pos bs n hlt]
          rw [List.getElem?_eq_getElem this] at hb
          have hb2 : bs.data.toList[n] = b := by simpa using hb
          rw [← hb2]; rfl
        simp [Instr.index, asIntOf, run_und hd, hb']
      · cases h
    · rename_i m e hu
      have hd := und_arr ht hu
      split at h
      · rename_i te hte
        split at h
        · rename_i hlt
          obtain ⟨cs, c', rfl, h1, h2⟩ := partV_sound (ok.ty e te hte) hv h
          refine ⟨c', ?_, h2⟩
          have hlt' : n < m := by omega
          simp only [Int.toNat_natCast] at h1
          simp [Instr.index, asIntOf, run_und hd, run_sizeOf (ok.ty e te hte), hlt', h1]
        · cases h
      · cases h
    · cases h
  · cases h
end


section
variable {k : K} {X : XR} {w : World} {cx : Cx} {fs : FS} {a : Act}

/-- An operand that may be left out. -/
def OV (k : K) (w : World) (cx : Cx) : Option (Option V) → Option Value → Prop
  | none, none => True
  | some (some v), some c => VR k.sg w cx v c
  | some none, some _ => True
  | _, _ => False

theorem bnd_run {lo : Option (Option V)} {low : Option Value} {d i : Int} (ho : OV k w cx lo low) (h : bndOf d lo = some i) : (lo = none ∧ low = none ∧ i = d) ∨ ∃ kk, low = some (.int kk i) := by
  unfold bndOf at h
  split at h
  · simp only [Option.some.injEq] at h; subst h
    cases low with
    | none => exact .inl ⟨rfl, rfl, rfl⟩
    | some c => simp [OV] at ho
  · rename_i v
    cases low with
    | none => simp [OV] at ho
    | some c =>
      obtain ⟨kk, rfl⟩ := idxOf_spec h ho
      exact .inr ⟨kk, rfl⟩
  · cases h

theorem run_sliceBound_in {P : Program} (kk : IntKind) (i : Int) (y : Nat) (code : BoundsCode) (h0 : 0 ≤ i) (h1 : i ≤ y) : (Instr.sliceBound (.int kk i) y code).run P w = .ok i.toNat w := by
  simp [Instr.sliceBound, asIntOf, h0, h1]

theorem run_bounds {P : Program} {isS : Bool} {len cap : Nat} {lo hi mx : Option (Option V)} {low high max : Option Value} {l h m : Int}
    (h1 : OV k w cx lo low) (h2 : OV k w cx hi high) (h3 : OV k w cx mx max) (e1 : bndOf 0 lo = some l) (e2 : bndOf len hi = some h) (e3 : bndOf len mx = some m)
    (b1 : 0 ≤ l) (b2 : l ≤ h) (b3 : h ≤ m) (b4 : m ≤ len) (b5 : len ≤ cap) (b6 : isS = true ∨ mx = none) (b7 : hi.isSome = true ∨ mx.isNone = true) :
    ∃ m' : Nat, (Instr.sliceBounds isS len cap low high max).run P w = .ok (l.toNat, h.toNat, m') w ∧ h.toNat ≤ m' ∧ m' ≤ cap ∧ (mx = none → m' = cap) := by
  have hl : ∀ code (y : Nat), (h.toNat : Int) = y → (match low with | some v => Instr.sliceBound v y code | none => (pure 0 : Sem Nat)).run P w = .ok l.toNat w := by
    intro code y hy
    rcases bnd_run h1 e1 with ⟨_, rfl, rfl⟩ | ⟨kk, rfl⟩
    · rfl
    · exact run_sliceBound_in kk l y code b1 (by omega)
  rcases bnd_run h3 e3 with ⟨hmx, rfl, rfl⟩ | ⟨km, rfl⟩
  · refine ⟨cap, ?_, by omega, Nat.le_refl _, fun _ => rfl⟩
    rcases bnd_run h2 e2 with ⟨_, rfl, rfl⟩ | ⟨kh, rfl⟩
    · have := hl .sliceB len (by omega)
      rcases bnd_run h1 e1 with ⟨_, rfl, rfl⟩ | ⟨kl, rfl⟩
      · simp [Instr.sliceBounds]
      · simp only [Int.toNat_natCast] at this ⊢
        simp [Instr.sliceBounds, this]
    · have hh := run_sliceBound_in (w := w) (P := P) kh h cap (if isS then .sliceAcap else .sliceAlen) (by omega) (by omega)
      rcases bnd_run h1 e1 with ⟨_, rfl, rfl⟩ | ⟨kl, rfl⟩
      · simp [Instr.sliceBounds, hh]
      · have := hl .sliceB h.toNat rfl
        simp only at this
        simp [Instr.sliceBounds, hh, this]
  · have hmx : mx ≠ none := by
      intro e; subst e; simp [OV] at h3
    have hm0 : 0 ≤ m := by omega
    have hmm := run_sliceBound_in (w := w) (P := P) km m cap (if isS then .slice3Acap else .slice3Alen) hm0 (by omega)
    refine ⟨m.toNat, ?_, by omega, by omega, fun e => absurd e hmx⟩
    rcases bnd_run h2 e2 with ⟨e, rfl, rfl⟩ | ⟨kh, rfl⟩
    · subst e; rcases b7 with b7 | b7
      · simp at b7
      · exact absurd (by simpa using b7) hmx
    · have hh := run_sliceBound_in (w := w) (P := P) kh h m.toNat .slice3B (by omega) (by omega)
      rcases bnd_run h1 e1 with ⟨_, rfl, rfl⟩ | ⟨kl, rfl⟩
      · simp [Instr.sliceBounds, hh, hmm]
      · have := hl .slice3C h.toNat rfl
        simp only at this
        simp [Instr.sliceBounds, hh, hmm, this]

theorem cutL_get {α : Type} (l : List α) (lo hi : Int) (i : Nat) : (cutL l lo hi)[i]? = if lo.toNat + i < hi.toNat then l[lo.toNat + i]? else none := by
  simp [cutL, List.getElem?_drop, List.getElem?_take]

theorem slice_sound (ok : KOk k) (fr : FR k X w cx fs a) {t : Nat} {x v' : V} {c : Value} {lo hi mx : Option (Option V)} {low high max : Option Value} (hv : VR k.sg w cx x c)
    (h1 : OV k w cx lo low) (h2 : OV k w cx hi high) (h3 : OV k w cx mx max) (h : sliceV k.E fs t x lo hi mx = some v') :
    ∃ c', (Instr.sliceAt t c low high max).run k.E.P w = .ok c' w ∧ VR k.sg w cx v' c' := by
  unfold sliceV at h
  split at h
  · cases h
  rename_i ti hti
  have ht := ok.ty t ti hti
  split at h
  · rename_i s hu
    have hd := und_str ht hu
    split at h
    · rename_i l hh e1 e2
      split at h
      · rename_i hb
        obtain ⟨b1, b2, b3⟩ := hb
        simp only [Option.some.injEq] at h; subst h
        cases hv with | p _ _ hp =>
        cases hp with | str bs _ hs =>
        subst hs
        have hsz : bs.data.toList.length = bs.size := by simp
        rw [hsz] at e2 b3
        have hmax : max = none := by cases max with | none => rfl | some c => simp [OV] at h3
        subst hmax
        obtain ⟨m', hr, _, _, _⟩ := run_bounds (P := k.E.P) (isS := false) (len := bs.size) (cap := bs.size) (m := bs.size) h1 h2 h3 e1 e2 (by simp [bndOf]) b1 b2 b3 (by omega) (Nat.le_refl _) (.inr rfl) (.inr rfl)
        refine ⟨.string (bs.extract l.toNat hh.toNat), ?_, .p _ _ (.str _ _ ?_)⟩
        · simp [Instr.sliceAt, Instr.slice, run_und hd, hr]
        · simp only [cutL, ByteArray.data_extract, Array.toList_extract, List.extract_eq_take_drop, List.drop_take]
      · cases h
    · cases h
  · rename_i e hu
    have hd := und_slice ht hu
    split at h
    · rename_i te kd es hte hexp
      have hv' := expS_sound fr hv hexp
      have hso := run_sizeOf (ok.ty e te hte) (w := w)
      split at h
      · rename_i l hh m e1 e2 e3
        split at h
        · rename_i hb
          obtain ⟨b1, b2, b3, b4, b7, b8⟩ := hb
          simp only [Option.some.injEq] at h; subst h
          cases hv' with | p _ _ hp =>
          cases hp with
          | nilS _ hk =>
            obtain ⟨m', hr, hm1, hm2, hm3⟩ := run_bounds (P := k.E.P) (isS := true) (len := 0) (cap := 0) h1 h2 h3 e1 e2 e3 b1 b2 b3 b4 (Nat.le_refl _) (.inl rfl) b7
            have hl0 : l.toNat = 0 := by simp at b4; omega
            have hh0 : hh.toNat = 0 := by simp at b4; omega
            have hm0 : m' = 0 := by omega
            subst hm0
            rw [hl0, hh0] at hr
            refine ⟨.slice none 0 0, ?_, ?_⟩
            · simp [Instr.sliceAt, Instr.slice, run_und hd, hr, hso]
            · have : cutL ([] : List PV) l hh = [] := by simp [cutL]
              rw [this]
              exact .p _ _ (.nilS _ hk)
          | list _ _ b o cap sz cv hk hl hcap hs hc hr0 =>
            obtain ⟨m', hr, hm1, hm2, hm3⟩ := run_bounds (P := k.E.P) (isS := true) (len := es.length) (cap := cap) h1 h2 h3 e1 e2 e3 b1 b2 b3 b4 hcap (.inl rfl) b7
            refine ⟨.slice (some ⟨b, (if m' = l.toNat then o else o + l.toNat * te.size), none⟩) (hh.toNat - l.toNat) (m' - l.toNat), ?_, ?_⟩
            · simp only [Instr.sliceAt, Instr.slice, Sem.run_bind, run_und hd, hr, hso, Result.andThen_ok]
              by_cases hml : m' = l.toNat <;> simp [hml, Addr_add]
            · have hlen : (cutL es l hh).length = hh.toNat - l.toNat := by simp [cutL]; omega
              rw [← hlen]
              by_cases he : es = []
              · subst he
                have h00 : hh.toNat = 0 := by simp at b4; omega
                have hc0 : cutL ([] : List PV) l hh = [] := by simp [cutL]
                rw [hc0]
                have hk2 : (if ([] : List PV).isEmpty = true then kd else LK.unk) = kd := rfl
                rw [hk2]
                refine .p _ _ (.list kd [] b _ _ sz cv hk ?_ (Nat.zero_le _) (by simp) (by simp) (by simp))
                intro e; have := hl e; simp at this; simp; omega
              · have hne : es.isEmpty = false := by cases es <;> simp at he ⊢
                rw [hne]
                simp only [Bool.false_eq_true, if_false]
                have hsz : ∀ (i : Nat) (x : PV), es[i]? = some x → x.cells.length = te.size := fun i x hx => by
                  have := (List.all_eq_true.1 b8) x (List.mem_of_getElem? hx)
                  simpa using this
                refine .p _ _ (.list .unk _ b _ _ te.size (fun i j => cv (l.toNat + i) j) (by simp) (by simp) (by rw [hlen]; omega) ?_ ?_ ?_)
                · intro i x hx
                  rw [cutL_get] at hx
                  split at hx
                  · exact hsz _ x hx
                  · cases hx
                · intro i x j c hx hcc
                  rw [cutL_get] at hx
                  split at hx
                  · rename_i hlt
                    have hml : ¬ m' = l.toNat := by omega
                    rw [if_neg hml]
                    have hse : sz = te.size := by rw [← hs _ x hx, hsz _ x hx]
                    have := hc _ x j c hx hcc
                    rw [hse] at this
                    have e : o + l.toNat * te.size + (i * te.size + j) = o + ((l.toNat + i) * te.size + j) := by rw [Nat.add_mul]; omega
                    rw [e]
                    exact this
                  · cases hx
                · intro i x j c hx hcc
                  rw [cutL_get] at hx
                  split at hx
                  · exact hr0 _ x j c hx hcc
                  · cases hx
        · cases h
      · cases h
    · cases h
  · cases h
end

end Go.AE

namespace Go.AE
open Go

section
variable {k : K} {X : XR} {w : World} {cx : Cx} {fs : FS} {a : Act}

theorem intOp_sound {op : BinOp} {kk : IntKind} {x y : Int} {r : PV} {t : Nat} (hs : op ≠ .shl) (hs' : op ≠ .shr) (h : intOp op kk x y = some r) :
    ∃ c, (binOp op t (.int kk x) (.int kk y)).run k.E.P w = .ok c w ∧ Rep k.sg w cx.S r c := by
  cases op
  case shl => contradiction
  case shr => contradiction
  case quo =>
    simp only [intOp] at h
    split at h
    · cases h
    · rename_i h0
      simp only [Option.some.injEq] at h; subst h
      exact ⟨_, by simp [binOp, Op.intDiv, h0], .int _ _⟩
  case rem =>
    simp only [intOp] at h
    split at h
    · cases h
    · rename_i h0
      simp only [Option.some.injEq] at h; subst h
      exact ⟨_, by simp [binOp, Op.intDiv, h0], .int _ _⟩
  all_goals
    simp only [intOp, cmpI, Option.some.injEq] at h
    first
    | (subst h; exact ⟨_, by simp only [binOp, ne_eq, not_true_eq_false, if_false]; rfl, .int _ _⟩)
    | (subst h; exact ⟨_, by simp only [binOp, ne_eq, not_true_eq_false, if_false]; rfl, .bool _⟩)
    | cases h

theorem strOp_sound {op : BinOp} {x y : ByteArray} {r : PV} {t : Nat} (h : strOp op x.data.toList y.data.toList = some r) :
    ∃ c, (binOp op t (.string x) (.string y)).run k.E.P w = .ok c w ∧ Rep k.sg w cx.S r c := by
  have hb : ∀ op, binOp op t (.string x) (.string y) = Op.stringOp op x y := by
    intro op; cases op <;> rfl
  rw [hb]
  unfold Op.stringOp
  simp only [ByteArray.toList_eq]
  cases op
  case add =>
    simp only [strOp] at h
    split at h
    · rename_i hle
      simp only [Option.some.injEq] at h; subst h
      have hx : x.data.toList.length = x.size := by simp
      have hy : y.data.toList.length = y.size := by simp
      have hm : ¬ (((x.size + y.size : Nat) : Int) > IntKind.i64.max) := by
        rw [hx, hy] at hle
        have : IntKind.i64.max = 9223372036854775807 := by decide
        rw [this]; omega
      refine ⟨.string (x ++ y), by simp only [hm, if_false]; rfl, .str _ _ (by simp)⟩
    · cases h
  all_goals
    simp only [strOp, Option.some.injEq] at h
    first
    | (subst h; exact ⟨_, rfl, .bool _⟩)
    | cases h
end


section
variable {k : K} {X : XR} {w : World} {cx : Cx} {fs : FS} {a : Act}

/-- A value of one shape is no list, no struct. -/
theorem ptr_shape {x : V} {c : Value} (hx : VR k.sg w cx x c) (h : (∃ r off, x = .ptr r off) ∨ (∃ cs off, x = .p (.pref cs off)) ∨ ∃ j, x = .p (.sptr j)) : ∃ ad, c = .pointer (some ad) := by
  rcases h with ⟨r, off, rfl⟩ | ⟨cs, off, rfl⟩ | ⟨j, rfl⟩
  · cases hx; exact ⟨_, rfl⟩
  · cases hx with | p _ _ hx =>
    cases hx; exact ⟨_, rfl⟩
  · cases hx with | p _ _ hx =>
    cases hx; exact ⟨_, rfl⟩
theorem nilp_shape {c : Value} (hx : VR k.sg w cx (.p .nilp) c) : c = .pointer none := by
  cases hx with | p _ _ hx =>
  cases hx; rfl
theorem nilif_shape {c : Value} (hx : VR k.sg w cx (.p .nilif) c) : c = .nilIface := by
  cases hx with | p _ _ hx =>
  cases hx; rfl
theorem iface_shape {c : Value} {t : Nat} {x : PV} (hx : VR k.sg w cx (.p (.iface t x)) c) : ∃ v, c = .iface t v ∧ Rep k.sg w cx.S x v := by
  cases hx with | p _ _ hx =>
  cases hx; exact ⟨_, rfl, by assumption⟩
theorem nilsl_shape {c : Value} (hx : VR k.sg w cx (.p (.list .nil [])) c) : c = .slice none 0 0 := by
  cases hx with | p _ _ hx =>
  cases hx with
  | nilS => rfl
  | list _ _ _ _ _ _ _ hk => exact absurd rfl hk

/-- '==' at a type: one step. -/
theorem eq_ptr {P : Program} {t e : Nat} (h : P.underlying t = some (.pointer e)) (m : Nat) (a b : Option Addr) (hab : a = none ∨ b = none) :
    (Op.equalIn (m + 1) t (.pointer a) (.pointer b)).run P w = .ok (a.isNone && b.isNone) w := by
  unfold Op.equalIn
  simp only [Sem.run_bind, run_und h, Result.andThen_ok]
  rcases hab with rfl | rfl
  · cases b <;> rfl
  · cases a <;> rfl
theorem eq_bool {P : Program} {t : Nat} (h : P.underlying t = some .bool) (m : Nat) (a b : Bool) : (Op.equalIn (m + 1) t (.bool a) (.bool b)).run P w = .ok (a == b) w := by
  unfold Op.equalIn
  simp only [Sem.run_bind, run_und h, Result.andThen_ok]
  rfl
theorem eq_nilif {P : Program} {t : Nat} {ms : Array (String × TypeId)} (h : P.underlying t = some (.interface ms)) (m : Nat) : (Op.equalIn (m + 1) t .nilIface .nilIface).run P w = .ok true w := by
  unfold Op.equalIn
  simp only [Sem.run_bind, run_und h, Result.andThen_ok]
  rfl
theorem eq_nilif1 {P : Program} {t : Nat} {ms : Array (String × TypeId)} (h : P.underlying t = some (.interface ms)) (m u : Nat) (v : Value) : (Op.equalIn (m + 1) t .nilIface (.iface u v)).run P w = .ok false w := by
  unfold Op.equalIn
  simp only [Sem.run_bind, run_und h, Result.andThen_ok]
  rfl
theorem eq_nilif2 {P : Program} {t : Nat} {ms : Array (String × TypeId)} (h : P.underlying t = some (.interface ms)) (m u : Nat) (v : Value) : (Op.equalIn (m + 1) t (.iface u v) .nilIface).run P w = .ok false w := by
  unfold Op.equalIn
  simp only [Sem.run_bind, run_und h, Result.andThen_ok]
  rfl
theorem eq_iface_ne {P : Program} {t : Nat} {ms : Array (String × TypeId)} (h : P.underlying t = some (.interface ms)) (m u u' : Nat) (v v' : Value) (hne : u ≠ u') : (Op.equalIn (m + 1) t (.iface u v) (.iface u' v')).run P w = .ok false w := by
  unfold Op.equalIn
  simp only [Sem.run_bind, run_und h, Result.andThen_ok]
  rw [if_pos hne]
  rfl
theorem eq_iface {P : Program} {t u : Nat} {ms : Array (String × TypeId)} (h : P.underlying t = some (.interface ms)) {i : TypeInfo} (hi : P.info? u = some i) (hc : i.comparable = true) (m : Nat) (v v' : Value) :
    (Op.equalIn (m + 1) t (.iface u v) (.iface u v')).run P w = (Op.equalIn m u v v').run P w := by
  rw [Op.equalIn]
  simp only [Sem.run_bind, run_und h, Result.andThen_ok]
  rw [if_neg (by simp)]
  simp [run_typeInfo hi, hc]
theorem eq_ptr2 {P : Program} {t e : Nat} {te : TI} (h : P.underlying t = some (.pointer e)) (he : tiOf P e = some te) (h0 : te.size ≠ 0) (m : Nat) (a b : Addr) :
    (Op.equalIn (m + 1) t (.pointer (some a)) (.pointer (some b))).run P w = (sameAddr a b).run P w := by
  rw [Op.equalIn]
  simp only [Sem.run_bind, run_und h, Result.andThen_ok, run_sizeOf he]
  rw [if_pos h0]
theorem eq_slice_nil {P : Program} {t e : Nat} (h : P.underlying t = some (.slice e)) (m : Nat) (a : Option Addr) (l c : Nat) :
    (Op.equalIn (m + 1) t (.slice a l c) (.slice none 0 0)).run P w = .ok a.isNone w := by
  unfold Op.equalIn
  simp only [Sem.run_bind, run_und h, Result.andThen_ok]
  cases a <;> rfl
theorem eq_map_nil {P : Program} {t e f : Nat} (h : P.underlying t = some (.map e f)) (m : Nat) (a : Option Nat) :
    (Op.equalIn (m + 1) t (.map a) (.map none)).run P w = .ok a.isNone w := by
  unfold Op.equalIn
  simp only [Sem.run_bind, run_und h, Result.andThen_ok]
  cases a <;> rfl
theorem eq_func_nil {P : Program} {t : Nat} {x y : Array TypeId} {z : Bool} (h : P.underlying t = some (.func x y z)) (m : Nat) (fn : Fn) (p q : Array Value) :
    (Op.equalIn (m + 1) t (.func fn p q) .nilFunc).run P w = .ok false w ∧ (Op.equalIn (m + 1) t .nilFunc .nilFunc).run P w = .ok true w := by
  constructor
  · unfold Op.equalIn
    simp only [Sem.run_bind, run_und h, Result.andThen_ok]
    rfl
  · unfold Op.equalIn
    simp only [Sem.run_bind, run_und h, Result.andThen_ok]
    rfl
end


section
variable {k : K} {X : XR} {w : World} {cx : Cx} {fs : FS} {a : Act}

theorem eql_sound (ok : KOk k) (fr : FR k X w cx fs a) {t : Nat} {ti : TI} (hT : k.E.T t = some ti) {cst : Bool} {x y : V} {c d : Value} {b : Bool} (hx : VR k.sg w cx x c) (hy : VR k.sg w cx y d)
    (h : eqlV k.E fs cst ti.und x y = some b) : (Op.equal t c d).run k.E.P w = .ok b w ∧ (c = .nilIface → d = .nilIface → cst = true) ∧ (isAggV c = false ∨ isAggV d = false) := by
  have ht := ok.ty t ti hT
  have e0 : Op.equal t c d = Op.equalIn 10000 t c d := rfl
  obtain ⟨m, hm⟩ : ∃ m, 10000 = m + 1 + 1 := ⟨9998, rfl⟩
  rw [e0, hm]
  clear e0 hm
  have ptrs : ∀ {e : Nat} {c d : Value} {b : Bool}, ti.und = .ptr e → (c = .pointer none ∧ ∃ ad, d = .pointer ad ∧ b = ad.isNone) ∨ (d = .pointer none ∧ ∃ ad, c = .pointer ad ∧ b = ad.isNone) →
      (Op.equalIn (m + 1 + 1) t c d).run k.E.P w = .ok b w ∧ (c = .nilIface → d = .nilIface → cst = true) ∧ (isAggV c = false ∨ isAggV d = false) := by
    intro e c d b hu hcd
    rcases hcd with ⟨rfl, ad, rfl, rfl⟩ | ⟨rfl, ad, rfl, rfl⟩
    · exact ⟨by rw [eq_ptr (und_ptr ht hu) _ _ _ (.inl rfl)]; rfl, by simp, .inl rfl⟩
    · exact ⟨by rw [eq_ptr (und_ptr ht hu) _ _ _ (.inr rfl)]; simp, by simp, .inl rfl⟩
  unfold eqlV at h
  split at h
  · rename_i b1 b2 hu
    simp only [Option.some.injEq] at h; subst h
    cases hx with | p _ _ hx =>
    cases hx
    cases hy with | p _ _ hy =>
    cases hy
    exact ⟨eq_bool (und_bool ht hu) _ _ _, by simp, .inl rfl⟩
  · rename_i e hu
    simp only [Option.some.injEq] at h; subst h
    rw [nilp_shape hx, nilp_shape hy]
    exact ptrs hu (.inl ⟨rfl, none, rfl, rfl⟩)
  · rename_i e _ _ hu
    simp only [Option.some.injEq] at h; subst h
    obtain ⟨ad, rfl⟩ := ptr_shape hy (by simp)
    exact ptrs hu (.inl ⟨nilp_shape hx, _, rfl, rfl⟩)
  · rename_i e _ _ hu
    simp only [Option.some.injEq] at h; subst h
    obtain ⟨ad, rfl⟩ := ptr_shape hx (by simp)
    exact ptrs hu (.inr ⟨nilp_shape hy, _, rfl, rfl⟩)
  · rename_i e _ _ hu
    simp only [Option.some.injEq] at h; subst h
    obtain ⟨ad, rfl⟩ := ptr_shape hy (by simp)
    exact ptrs hu (.inl ⟨nilp_shape hx, _, rfl, rfl⟩)
  · rename_i e _ _ hu
    simp only [Option.some.injEq] at h; subst h
    obtain ⟨ad, rfl⟩ := ptr_shape hx (by simp)
    exact ptrs hu (.inr ⟨nilp_shape hy, _, rfl, rfl⟩)
  · rename_i e _ hu
    simp only [Option.some.injEq] at h; subst h
    obtain ⟨ad, rfl⟩ := ptr_shape hy (by simp)
    exact ptrs hu (.inl ⟨nilp_shape hx, _, rfl, rfl⟩)
  · rename_i e _ hu
    simp only [Option.some.injEq] at h; subst h
    obtain ⟨ad, rfl⟩ := ptr_shape hx (by simp)
    exact ptrs hu (.inr ⟨nilp_shape hy, _, rfl, rfl⟩)
  · rename_i ms hu
    split at h
    · rename_i hc
      simp only [Option.some.injEq] at h; subst h
      obtain ⟨l, hl, _⟩ := und_iface ht hu
      rw [nilif_shape hx, nilif_shape hy]
      exact ⟨eq_nilif hl _, fun _ _ => hc, .inl rfl⟩
    · cases h
  · rename_i ms _ _ hu
    simp only [Option.some.injEq] at h; subst h
    obtain ⟨l, hl, _⟩ := und_iface ht hu
    obtain ⟨v, rfl, _⟩ := iface_shape hy
    rw [nilif_shape hx]
    exact ⟨eq_nilif1 hl _ _ _, by simp, .inl rfl⟩
  · rename_i ms _ _ hu
    simp only [Option.some.injEq] at h; subst h
    obtain ⟨l, hl, _⟩ := und_iface ht hu
    obtain ⟨v, rfl, _⟩ := iface_shape hx
    rw [nilif_shape hy]
    exact ⟨eq_nilif2 hl _ _ _, by simp, .inl rfl⟩
  · rename_i ms s i u j hu
    obtain ⟨l, hl, _⟩ := und_iface ht hu
    obtain ⟨v1, rfl, r1⟩ := iface_shape hx
    obtain ⟨v2, rfl, r2⟩ := iface_shape hy
    split at h
    · rename_i hsu
      subst hsu
      split at h
      · rename_i ts hts
        split at h
        · rename_i e hue
          split at h
          · rename_i te hte
            split at h
            · cases h
            · rename_i hz
              simp only [Option.some.injEq] at h; subst h
              have h0 : te.size ≠ 0 := fun e => hz (.inl e)
              have hc : ts.cmp = true := by cases hcc : ts.cmp <;> simp [hcc] at hz ⊢
              obtain ⟨info, _, _, hi, _, _, _, _, _, _, _, _, _, hcm⟩ := tiOf_spec (ok.ty s ts hts)
              refine ⟨?_, by simp, .inl rfl⟩
              rw [eq_iface hl hi (by rw [← hcm, hc])]
              cases r1 with | sptr _ a1 h1 =>
              cases r2 with | sptr _ a2 h2 =>
              rw [eq_ptr2 (und_ptr (ok.ty s ts hts) hue) (ok.ty e te hte) h0]
              by_cases hij : i = j
              · subst hij
                rw [h1] at h2
                have : a1 = a2 := by simpa using h2
                subst this
                simp [sameAddr]
              · have := ok.sg i j a1 a2 hij h1 h2 w fr.size fr.pre
                rw [this]
                simp [hij]
          · cases h
        · cases h
      · cases h
    · rename_i hsu
      simp only [Option.some.injEq] at h; subst h
      exact ⟨eq_iface_ne hl _ _ _ _ _ hsu, by simp, .inl rfl⟩
  · rename_i ms s _ u _ _ hu
    obtain ⟨l, hl, _⟩ := und_iface ht hu
    obtain ⟨v1, rfl, r1⟩ := iface_shape hx
    obtain ⟨v2, rfl, r2⟩ := iface_shape hy
    split at h
    · cases h
    · rename_i hsu
      simp only [Option.some.injEq] at h; subst h
      exact ⟨eq_iface_ne hl _ _ _ _ _ hsu, by simp, .inl rfl⟩
  · rename_i e hu
    simp only [Option.some.injEq] at h; subst h
    rw [nilsl_shape hx, nilsl_shape hy]
    exact ⟨eq_slice_nil (und_slice ht hu) _ _ _ _, by simp, .inl rfl⟩
  · rename_i e es hu
    simp only [Option.some.injEq] at h; subst h
    rw [nilsl_shape hy]
    cases hx with | p _ _ hx =>
    cases hx with
    | nilS _ hk => exact absurd rfl hk
    | list => exact ⟨eq_slice_nil (und_slice ht hu) _ _ _ _, by simp, .inl rfl⟩
  · rename_i e _ x0 es _ hu
    simp only [Option.some.injEq] at h; subst h
    rw [nilsl_shape hy]
    cases hx with | p _ _ hx =>
    cases hx with
    | list => exact ⟨eq_slice_nil (und_slice ht hu) _ _ _ _, by simp, .inl rfl⟩
  · rename_i e r n hu
    rw [nilsl_shape hy]
    split at h
    · rename_i et es stab ho
      split at h
      · rename_i hn
        simp only [Option.some.injEq] at h; subst h
        cases hx with | vec _ _ ad cap hal ha =>
        have hne : es[0]? = some (es[0]'(by omega)) := List.getElem?_eq_getElem (by omega)
        obtain ⟨q, b, _, _, hq, hlen, hb, _⟩ := fr.elem ho hal hne
        have := (ha q hq).2 (by omega)
        simp only [VC.val, hb, Option.map_some] at this
        rw [this]
        exact ⟨eq_slice_nil (und_slice ht hu) _ _ _ _, by simp, .inl rfl⟩
      · cases h
    · cases h
  · rename_i e f hu
    simp only [Option.some.injEq] at h; subst h
    cases hx with | p _ _ hx =>
    cases hx
    cases hy with | p _ _ hy =>
    cases hy
    exact ⟨eq_map_nil (und_map ht hu) _ _, by simp, .inl rfl⟩
  · rename_i e f r hu
    simp only [Option.some.injEq] at h; subst h
    cases hx
    cases hy with | p _ _ hy =>
    cases hy
    exact ⟨eq_map_nil (und_map ht hu) _ _, by simp, .inl rfl⟩
  · rename_i hu
    simp only [Option.some.injEq] at h; subst h
    obtain ⟨p, q, r, hd⟩ := und_func ht hu
    cases hx with | p _ _ hx =>
    cases hx
    cases hy with | p _ _ hy =>
    cases hy
    exact ⟨(eq_func_nil hd _ (.func 0) #[] #[]).2, by simp, .inl rfl⟩
  · rename_i hu
    simp only [Option.some.injEq] at h; subst h
    obtain ⟨p, q, r, hd⟩ := und_func ht hu
    cases hx with | p _ _ hx =>
    cases hx
    cases hy with | p _ _ hy =>
    cases hy
    exact ⟨(eq_func_nil hd _ _ _ _).1, by simp, .inl rfl⟩
  · rename_i hu
    simp only [Option.some.injEq] at h; subst h
    obtain ⟨p, q, r, hd⟩ := und_func ht hu
    cases hx
    cases hy with | p _ _ hy =>
    cases hy
    exact ⟨(eq_func_nil hd _ _ _ _).1, by simp, .inl rfl⟩
  · cases h
end

end Go.AE

namespace Go.AE
open Go

section
variable {k : K} {X : XR} {w : World} {cx : Cx} {fs : FS} {a : Act}

theorem eqGuard_nil {P : Program} {op : BinOp} {t : Nat} {x y : Operand} (h : (isConst x || isConst y) = true) : (eqGuard op t x y .nilIface .nilIface).run P w = .ok () w := by
  cases x <;> cases y <;> first | (simp [isConst] at h; done) | (cases op <;> rfl)
theorem eqGuard_other {P : Program} {op : BinOp} {t : Nat} {x y : Operand} {c d : Value} (h : c = .nilIface → d = .nilIface → False) (h2 : isAggV c = false ∨ isAggV d = false) :
    (eqGuard op t x y c d).run P w = .ok () w := by
  unfold eqGuard
  cases op <;> first | rfl | skip
  all_goals
    simp only [Bool.not_true, Bool.false_eq_true, if_false]
    split
    · exact (h rfl rfl).elim
    · simp [isAggV] at h2
    · rfl
theorem run_eqGuard {P : Program} {op : BinOp} {t : Nat} {x y : Operand} {c d : Value} (h : c = .nilIface → d = .nilIface → (isConst x || isConst y) = true) (h2 : isAggV c = false ∨ isAggV d = false) :
    (eqGuard op t x y c d).run P w = .ok () w := by
  by_cases hc : c = .nilIface
  · by_cases hd : d = .nilIface
    · have := h hc hd
      subst hc; subst hd
      exact eqGuard_nil this
    · exact eqGuard_other (fun _ e => hd e) h2
  · exact eqGuard_other (fun e _ => hc e) h2

theorem bin_other {op : BinOp} {t : Nat} {c d : Value} (h : op = .eql ∨ op = .neq) (hi : ∀ k1 a k2 b, c = .int k1 a → d = .int k2 b → False) (hs : ∀ a b, c = .string a → d = .string b → False)
    (hf : ∀ k1 a, c ≠ .float k1 a) (hcx : ∀ k1 a b, c ≠ .complex k1 a b) : binOp op t c d = (if op = .eql then (do pure (.bool (← Op.equal t c d))) else do pure (.bool (!(← Op.equal t c d)))) := by
  rcases h with rfl | rfl
  all_goals
    cases c <;> first | (exact absurd rfl (hf _ _)) | (exact absurd rfl (hcx _ _ _)) | skip
    all_goals cases d <;> first | rfl | (exact (hi _ _ _ _ rfl rfl).elim) | (exact (hs _ _ rfl rfl).elim)

theorem VR.noFloat {v : V} {c : Value} (h : VR k.sg w cx v c) (hv : v ≠ .p .any) : (∀ k1 a, c ≠ .float k1 a) ∧ ∀ k1 a b, c ≠ .complex k1 a b := by
  cases h with
  | p x _ h => cases h <;> first | (exact absurd rfl hv) | exact ⟨by intros; simp, by intros; simp⟩
  | _ => exact ⟨by intros; simp, by intros; simp⟩

theorem bin_sound (ok : KOk k) (fr : FR k X w cx fs a) {op : BinOp} {t : Nat} {ox oy : Operand} {x y v' : V} {c d : Value} (hx : VR k.sg w cx x c) (hy : VR k.sg w cx y d)
    (h : binV k.E fs op t (isConst ox || isConst oy) x y = some v') : ∃ c', (do eqGuard op t ox oy c d; binOp op t c d : Sem Value).run k.E.P w = .ok c' w ∧ VR k.sg w cx v' c' := by
  have guard : (c = .nilIface → d = .nilIface → (isConst ox || isConst oy) = true) → (isAggV c = false ∨ isAggV d = false) → ∀ c', (binOp op t c d).run k.E.P w = .ok c' w →
      (do eqGuard op t ox oy c d; binOp op t c d : Sem Value).run k.E.P w = .ok c' w := by
    intro h1 h2 c' h3
    simp only [Sem.run_bind, run_eqGuard h1 h2, Result.andThen_ok, h3]
  unfold binV at h
  split at h
  · rename_i kk x1 _ y1
    split at h
    · cases h
    · rename_i h0
      simp only [Option.some.injEq] at h; subst h
      cases hx with | p _ _ hx =>
      cases hx
      cases hy with | p _ _ hy =>
      cases hy
      exact ⟨_, guard (by simp) (.inl rfl) _ (by simp only [binOp, Op.shift]; rw [if_neg h0]; rfl), .p _ _ (.int _ _)⟩
  · rename_i kk x1 _ y1
    split at h
    · cases h
    · rename_i h0
      simp only [Option.some.injEq] at h; subst h
      cases hx with | p _ _ hx =>
      cases hx
      cases hy with | p _ _ hy =>
      cases hy
      exact ⟨_, guard (by simp) (.inl rfl) _ (by simp only [binOp, Op.shift]; rw [if_neg h0]; rfl), .p _ _ (.int _ _)⟩
  · rename_i kk x1 k2 y1 hs1 hs2
    split at h
    · rename_i hk
      subst hk
      simp only [Option.map_eq_some_iff] at h
      obtain ⟨r, hr, rfl⟩ := h
      cases hx with | p _ _ hx =>
      cases hx
      cases hy with | p _ _ hy =>
      cases hy
      obtain ⟨c', h1, h2⟩ := intOp_sound (k := k) (w := w) (cx := cx) (t := t) hs1 hs2 hr
      exact ⟨c', guard (by simp) (.inl rfl) _ h1, .p _ _ h2⟩
    · cases h
  · rename_i s1 s2
    simp only [Option.map_eq_some_iff] at h
    obtain ⟨r, hr, rfl⟩ := h
    cases hx with | p _ _ hx =>
    cases hx with | str b1 _ e1 =>
    cases hy with | p _ _ hy =>
    cases hy with | str b2 _ e2 =>
    subst e1; subst e2
    obtain ⟨c', h1, h2⟩ := strOp_sound (k := k) (w := w) (cx := cx) (t := t) hr
    exact ⟨c', guard (by simp) (.inl rfl) _ h1, .p _ _ h2⟩
  · rename_i hs1 hs2 hint hstr
    split at h
    · cases h
    · rename_i ti hti
      have key : ∀ (b : Bool), eqlV k.E fs (isConst ox || isConst oy) ti.und x y = some b → (op = .eql ∨ op = .neq) →
          ∃ c', (do eqGuard op t ox oy c d; binOp op t c d : Sem Value).run k.E.P w = .ok c' w ∧ c' = .bool (if op = .eql then b else !b) := by
        intro b hb hop
        obtain ⟨h1, h2, h3⟩ := eql_sound ok fr hti hx hy hb
        have hxa : x ≠ .p .any := by
          intro e; subst e
          unfold eqlV at hb; split at hb <;> simp_all
        obtain ⟨nf, nc⟩ := hx.noFloat hxa
        refine ⟨.bool (if op = .eql then b else !b), guard h2 h3 _ ?_, rfl⟩
        rw [bin_other hop ?_ ?_ nf nc]
        · rcases hop with rfl | rfl <;> simp [h1]
        · intro k1 a1 k2 a2 ec ed
          subst ec; subst ed
          unfold eqlV at hb
          split at hb <;> first | (cases hb; done) | skip
          all_goals (first | (cases hx with | p _ _ hx => cases hx) | cases hx)
        · intro a1 a2 ec ed
          subst ec; subst ed
          unfold eqlV at hb
          split at hb <;> first | (cases hb; done) | skip
          all_goals (first | (cases hx with | p _ _ hx => cases hx) | cases hx)
      split at h
      · simp only [Option.map_eq_some_iff] at h
        obtain ⟨b, hb, rfl⟩ := h
        obtain ⟨c', h1, rfl⟩ := key b hb (.inl rfl)
        exact ⟨_, h1, .p _ _ (.bool _)⟩
      · simp only [Option.map_eq_some_iff] at h
        obtain ⟨b, hb, rfl⟩ := h
        obtain ⟨c', h1, rfl⟩ := key b hb (.inr rfl)
        exact ⟨_, h1, .p _ _ (.bool _)⟩
      · cases h

theorem un_sound {op : UnOp} {x v' : V} {c : Value} (hx : VR k.sg w cx x c) (h : unV op x = some v') : ∃ c', (Op.unary op c).run k.E.P w = .ok c' w ∧ VR k.sg w cx v' c' := by
  unfold unV at h
  split at h
  · cases hx with | p _ _ hx =>
    cases hx
    split at h
    · simp only [Option.some.injEq] at h; subst h
      exact ⟨_, by simp only [Op.unary, Op.intArith]; rfl, .p _ _ (.int _ _)⟩
    · simp only [Option.some.injEq] at h; subst h
      exact ⟨_, by simp only [Op.unary, Op.intBits]; rfl, .p _ _ (.int _ _)⟩
    · cases h
  · cases hx with | p _ _ hx =>
    cases hx
    split at h
    · simp only [Option.some.injEq] at h; subst h
      exact ⟨_, rfl, .p _ _ (.bool _)⟩
    · cases h
  · cases h

theorem extract_sound {i : Nat} {x v' : V} {c : Value} (hx : VR k.sg w cx x c) (h : extractV i x = some v') : ∃ c', (Instr.extract c i).run k.E.P w = .ok c' w ∧ VR k.sg w cx v' c' := by
  unfold extractV at h
  split at h
  · rename_i vs
    simp only [Option.map_eq_some_iff] at h
    obtain ⟨y, hy, rfl⟩ := h
    cases hx with | p _ _ hx =>
    cases hx with | tuple _ l hl hr =>
    have hi : i < l.length := by rw [hl]; exact (List.getElem?_eq_some_iff.1 hy).1
    have hc : l[i]? = some l[i] := List.getElem?_eq_getElem hi
    exact ⟨l[i], by simp [Instr.extract, hc], .p _ _ (hr i y _ hy hc)⟩
  · rename_i vs
    cases hx with | tuple _ l hl hr =>
    have hi : i < l.length := by rw [hl]; exact (List.getElem?_eq_some_iff.1 h).1
    have hc : l[i]? = some l[i] := List.getElem?_eq_getElem hi
    exact ⟨l[i], by simp [Instr.extract, hc], hr i v' _ h hc⟩
  · cases h
end

end Go.AE
