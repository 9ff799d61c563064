/-
AE, part A: an evaluator of GoSem's code over abstract values: pure data as trees, boxes and growing slices as named objects. Definitions alone; that it is right is proved in the parts behind.
AE, part B: temporaries as a tree.
-/
import Derived.Calls
import Derived.LoopN
namespace Go.AE
open Go
noncomputable section

/-- What is known of an empty slice: it is nil, it is a literal (not nil, no room behind), nothing. -/
inductive LK where
  | nil | lit | unk

/-- Pure values: they never change. -/
inductive PV where
  | any
  | bool (b : Bool)
  | int (k : IntKind) (n : Int)
  | str (s : List UInt8)
  | nilp
  | pref (cs : List PV) (off : Nat)
  | sptr (k : Nat)
  | list (k : LK) (es : List PV)
  | nilmap
  | agg (cs : List PV)
  | func (fn : Fn) (first captured : List PV)
  | nilfn
  | iface (t : Nat) (v : PV)
  | nilif
  | tuple (vs : List PV)

/-- Names of objects: of the frame, of all. -/
inductive Ref where
  | loc (id : Nat)
  | glob (n : Nat)

/-- Values. -/
inductive V where
  | p (x : PV)
  | ptr (r : Ref) (off : Nat)
  | vptr (r : Ref) (n i off : Nat)
  | vec (r : Ref) (n : Nat)
  | map (r : Ref)
  | agg (cs : List V)
  | func (fn : Fn) (first captured : List V)
  | tuple (vs : List V)

/-- Temporaries, as a tree: number 0 at the root; behind it those of odd numbers to the left, of even ones to the right. -/
inductive Tr where
  | nil
  | node (v : V) (l r : Tr)
-- REC get set all
def Tr.get (t : Tr) : Nat → Option V := Tr.rec (fun _ => none) (fun v _ _ ihl ihr i => Nat.rec (some v) (fun j _ => match Nat.beq (j % 2) 0 with | true => ihl (j / 2) | false => ihr (j / 2)) i) t
def Tr.set (t : Tr) (i : Nat) (x : V) : Tr := Tr.rec (motive := fun _ => Nat → Tr) (fun _ => .nil) (fun v l r ihl ihr i => Nat.rec (.node x l r) (fun j _ => match Nat.beq (j % 2) 0 with | true => .node v (ihl (j / 2)) r | false => .node v l (ihr (j / 2))) i) t i
def Tr.all (f : V → Bool) (t : Tr) : Bool := Tr.rec true (fun v _ _ ihl ihr => match f v with | true => (match ihl with | true => ihr | false => false) | false => false) t
-- END REC
def Tr.map (f : V → V) : Tr → Tr
  | .nil => .nil
  | .node v l r => .node (f v) (l.map f) (r.map f)
/-- So many places. -/
def Tr.mk (x : V) : Nat → Nat → Tr
  | 0, _ => .nil
  | k + 1, c => match c with
    | 0 => .nil
    | m + 1 => .node x (Tr.mk x k ((m + 1) / 2)) (Tr.mk x k (m / 2))
/-- Values laid from a number on. -/
def Tr.lay : List V → Nat → Tr → Tr
  | [], _, t => t
  | v :: r, i, t => Tr.lay r (i + 1) (t.set i v)

/-- Objects: cells; a slice that grows (its elements' type, none: it has no memory yet), of which the first 'stab' elements stay; a map. -/
inductive Obj where
  | cells (cs : List V)
  | vec (et : Option Nat) (es : List PV) (stab : Nat)
  | map (es : List (PV × V))

structure St where
  objs : Nat → Option Obj
  next : Nat

structure FS where
  env : Tr
  locs : List (Nat × Obj)
  nid : Nat
  st : St

inductive Und where
  | bool | int (k : IntKind) | str | ptr (e : Nat) | slice (e : Nat) | arr (n e : Nat) | map (k e : Nat) | struct (fs : List (Nat × Nat)) | func | iface (ms : Bool) | oth

structure TI where
  size : Nat
  bytes : Nat
  ag : Bool
  cmp : Bool
  und : Und
  zero : List PV

/-- Marks beside a function's operations (region, place): none of them matters for what is right. -/
structure Ann where
  glob : List (Nat × Nat) := []
  imm : List (Nat × Nat) := []
  frz : List (Nat × Nat) := []
  hole : List (Nat × Nat) := []
  vecs : List (Nat × Nat × List Nat) := []
  clear : List (Nat × List Nat) := []
  keep : Bool := false

abbrev CallF := Nat → List V → St → Option (V × St)

structure En where
  P : Program
  T : Nat → Option TI
  G : Nat → Option (List PV)
  A : Nat → Ann
  summ : Nat → Option (List V → St → Option (V × St))

def undefV : V := .p (.tuple [])
def anyV : V := .p .any

def PV.cells : PV → List PV
  | .agg cs => cs
  | x => [x]
def V.cells : V → List V
  | .p x => x.cells.map .p
  | .agg cs => cs
  | v => [v]
def V.pv : V → Option PV
  | .p x => some x
  | _ => none
def unp : List V → Option (List PV)
  | [] => some []
  | v :: r => match v.pv, unp r with
    | some x, some xs => some (x :: xs)
    | _, _ => none
def mkAgg (cs : List V) : V := match unp cs with | some ps => .p (.agg ps) | none => .agg cs
def mkTup (cs : List V) : V := match unp cs with | some ps => .p (.tuple ps) | none => .tuple cs
def mkFunc (fn : Fn) (first captured : List V) : V :=
  match unp first, unp captured with
  | some a, some b => .p (.func fn a b)
  | _, _ => .func fn first captured

/-- A constant of the program that is no struct. -/
def scal : Value → Option PV
  | .bool b => some (.bool b)
  | .int k n => some (.int k n)
  | .string s => some (.str s.data.toList)
  | .pointer none => some .nilp
  | .slice none 0 0 => some (.list .nil [])
  | .map none => some .nilmap
  | .nilFunc => some .nilfn
  | .nilIface => some .nilif
  | _ => none
def scals : List Value → Option (List PV)
  | [] => some []
  | v :: r => match scal v, scals r with
    | some x, some xs => some (x :: xs)
    | _, _ => none
def pvOf : Value → Option PV
  | .agg cs => (scals cs.toList).map .agg
  | v => scal v

def lkp : List (Nat × Obj) → Nat → Option Obj
  | [], _ => none
  | (i, o) :: r, k => if i = k then some o else lkp r k
def upd : List (Nat × Obj) → Nat → Obj → List (Nat × Obj)
  | [], _, _ => []
  | (i, o) :: r, k, x => if i = k then (i, x) :: r else (i, o) :: upd r k x
def del : List (Nat × Obj) → Nat → List (Nat × Obj)
  | [], _ => []
  | (i, o) :: r, k => if i = k then del r k else (i, o) :: del r k

def St.set (s : St) (n : Nat) (o : Obj) : St := { s with objs := fun m => if m = n then some o else s.objs m }
def St.del (s : St) (n : Nat) : St := { s with objs := fun m => if m = n then none else s.objs m }
def St.push (s : St) (o : Obj) : St := { objs := fun m => if m = s.next then some o else s.objs m, next := s.next + 1 }
/-- Objects behind a number are forgotten; their numbers stay used. -/
def St.cut (s : St) (n : Nat) : St := { s with objs := fun m => if m < n then s.objs m else none }

def FS.obj (fs : FS) : Ref → Option Obj
  | .loc id => lkp fs.locs id
  | .glob n => fs.st.objs n
def FS.setObj (fs : FS) (r : Ref) (o : Obj) : FS :=
  match r with
  | .loc id => { fs with locs := upd fs.locs id o }
  | .glob n => { fs with st := fs.st.set n o }
def FS.delObj (fs : FS) (r : Ref) : FS :=
  match r with
  | .loc id => { fs with locs := del fs.locs id }
  | .glob n => { fs with st := fs.st.del n }
/-- A new object: its name. -/
def FS.newObj (fs : FS) (g : Bool) (o : Obj) : Ref × FS :=
  if g then (.glob fs.st.next, { fs with st := fs.st.push o })
  else (.loc fs.nid, { fs with locs := (fs.nid, o) :: fs.locs, nid := fs.nid + 1 })
def FS.put (fs : FS) (dst : Option Nat) (v : V) : FS :=
  match dst with
  | some d => { fs with env := fs.env.set d v }
  | none => fs


def mapO {α β : Type} (f : α → Option β) : List α → Option (List β)
  | [] => some []
  | v :: r => match f v, mapO f r with
    | some x, some xs => some (x :: xs)
    | _, _ => none

/-- It names nothing of the frame. -/
def globby : V → Bool
  | .p _ | .ptr (.glob _) _ | .map (.glob _) => true
  | _ => false

/-- A value that may leave its frame: slices that grow are seen as they are. -/
def expS (fs : FS) : V → Option V
  | .p x => some (.p x)
  | .ptr (.glob n) off => some (.ptr (.glob n) off)
  | .map (.glob n) => some (.map (.glob n))
  | .vec r n => match fs.obj r with
    | some (.vec _ es stab) => if n = es.length ∧ stab = n then some (.p (.list .unk es)) else none
    | _ => none
  | .func fn a b => if a.all globby && b.all globby then some (.func fn a b) else none
  | _ => none
def expA (fs : FS) : V → Option V
  | .agg cs => (mapO (expS fs) cs).map mkAgg
  | v => expS fs v
def expT (fs : FS) : V → Option V
  | .tuple vs => (mapO (expA fs) vs).map mkTup
  | v => expA fs v
/-- As a pure value. -/
def pureA (fs : FS) (v : V) : Option PV := (expA fs v).bind V.pv

/-- What a value leaves its frame as where slices of all may go on growing. -/
def keepS (fs : FS) : V → Option V
  | .vec (.glob n) k => some (.vec (.glob n) k)
  | v => expA fs v
def keepT (fs : FS) : V → Option V
  | .tuple vs => (mapO (keepS fs) vs).map mkTup
  | v => keepS fs v

/-- What is handed on turns no more. -/
def frzR (fs : FS) (r : Ref) : FS := match fs.obj r with
  | some (.vec sz es stab) => if stab = es.length then fs else fs.setObj r (.vec sz es es.length)
  | _ => fs
def frz1 (fs : FS) : V → FS
  | .vec r _ => frzR fs r
  | _ => fs
def frzA (fs : FS) : V → FS
  | .agg cs => cs.foldl frz1 fs
  | v => frz1 fs v
def frzT (fs : FS) : V → FS
  | .tuple vs => vs.foldl frzA fs
  | v => frzA fs v
/-- The same, but for slices of all. -/
def frzK (fs : FS) : V → FS
  | .vec (.glob _) _ => fs
  | v => frzA fs v
def frzKT (fs : FS) : V → FS
  | .tuple vs => vs.foldl frzK fs
  | v => frzK fs v

def evalO (E : En) (env : Tr) : Operand → Option V
  | .tmp t => (env.get t)
  | .const v => (pvOf v).map .p
  | .global g => (E.G g).map fun cs => .p (.pref cs 0)
  | .func f => some (.p (.func (.func f) [] []))

def readP (ti : TI) (cs : List PV) (off : Nat) : Option V :=
  if ti.ag then (if off + ti.size ≤ cs.length then some (.p (.agg ((cs.drop off).take ti.size))) else none)
  else match cs[off]? with | some c => some (.p c) | none => none
def readV (ti : TI) (cs : List V) (off : Nat) : Option V :=
  if ti.ag then (if off + ti.size ≤ cs.length then some (mkAgg ((cs.drop off).take ti.size)) else none)
  else cs[off]?
def loadV (fs : FS) (ti : TI) : V → Option V
  | .p (.pref cs off) => readP ti cs off
  | .ptr r off => match fs.obj r with
    | some (.cells cs) => readV ti cs off
    | _ => none
  | .vptr r n i off => match fs.obj r with
    | some (.vec _ es _) => if n = es.length then (match es[i]? with | some e => readP ti e.cells off | none => none) else none
    | _ => none
  | _ => none

/-- Cells with others in their places from one on. -/
def putAt {α : Type} (cs : List α) (off : Nat) (vs : List α) : List α := cs.take off ++ vs ++ cs.drop (off + vs.length)

/-- Something is known of it, and it is no list of results. -/
def okTop : V → Bool
  | .p .any | .p (.tuple _) | .tuple _ => false
  | _ => true
def storeV (fs : FS) (ti : TI) (a v : V) : Option FS :=
  match a with
  | .ptr r off => match fs.obj r with
    | some (.cells cs) =>
      match (match r with | .loc _ => some v | .glob _ => keepS fs v) with
      | some v => if v.cells.length = ti.size ∧ off + ti.size ≤ cs.length ∧ okTop v then some (fs.setObj r (.cells (putAt cs off v.cells))) else none
      | none => none
    | _ => none
  | .vptr r n i off => match fs.obj r, pureA fs v with
    | some (.vec sz es stab), some x =>
      if n = es.length ∧ off = 0 ∧ stab ≤ i ∧ okTop v then
        match es[i]? with
        | some e => if e.cells.length = ti.size ∧ x.cells.length = ti.size then some (fs.setObj r (.vec sz (es.set i x) (if stab = i ∧ i + 1 = n then n else stab))) else none
        | none => none
      else none
    | _, _ => none
  | _ => none

def cmpI (op : BinOp) (x y : Int) : Option PV :=
  match op with
  | .eql => some (.bool (x == y))
  | .neq => some (.bool (x != y))
  | .lss => some (.bool (decide (x < y)))
  | .leq => some (.bool (decide (x ≤ y)))
  | .gtr => some (.bool (decide (x > y)))
  | .geq => some (.bool (decide (x ≥ y)))
  | _ => none
def intOp (op : BinOp) (k : IntKind) (x y : Int) : Option PV :=
  match op with
  | .add => some (.int k (k.wrap (x + y)))
  | .sub => some (.int k (k.wrap (x - y)))
  | .mul => some (.int k (k.wrap (x * y)))
  | .quo => if y = 0 then none else some (.int k (k.wrap (x.tdiv y)))
  | .rem => if y = 0 then none else some (.int k (x.tmod y))
  | .and => some (.int k (k.wrap (BitVec.ofInt k.bits x &&& BitVec.ofInt k.bits y).toNat))
  | .or => some (.int k (k.wrap (BitVec.ofInt k.bits x ||| BitVec.ofInt k.bits y).toNat))
  | .xor => some (.int k (k.wrap (BitVec.ofInt k.bits x ^^^ BitVec.ofInt k.bits y).toNat))
  | .andNot => some (.int k (k.wrap (BitVec.ofInt k.bits x &&& ~~~BitVec.ofInt k.bits y).toNat))
  | op => cmpI op x y
def strOp (op : BinOp) (x y : List UInt8) : Option PV :=
  match op with
  | .add => if x.length + y.length ≤ 1099511627776 then some (.str (x ++ y)) else none
  | .eql => some (.bool (x == y))
  | .neq => some (.bool (!(x == y)))
  | .lss => some (.bool (Op.bytesLess x y))
  | .leq => some (.bool (Op.bytesLess x y || x == y))
  | .gtr => some (.bool (!(Op.bytesLess x y || x == y)))
  | .geq => some (.bool (!Op.bytesLess x y))
  | _ => none
def isConst : Operand → Bool
  | .const _ => true
  | _ => false
/-- '==' of what is neither a number nor a text. -/
def eqlV (E : En) (fs : FS) (cst : Bool) (und : Und) (x y : V) : Option Bool :=
  match und, x, y with
  | .bool, .p (.bool a), .p (.bool b) => some (a == b)
  | .ptr _, .p .nilp, .p .nilp => some true
  | .ptr _, .p .nilp, .ptr _ _ | .ptr _, .ptr _ _, .p .nilp | .ptr _, .p .nilp, .p (.pref _ _) | .ptr _, .p (.pref _ _), .p .nilp
  | .ptr _, .p .nilp, .p (.sptr _) | .ptr _, .p (.sptr _), .p .nilp => some false
  | .iface _, .p .nilif, .p .nilif => if cst then some true else none
  | .iface _, .p .nilif, .p (.iface _ _) | .iface _, .p (.iface _ _), .p .nilif => some false
  | .iface _, .p (.iface s (.sptr a)), .p (.iface t (.sptr b)) =>
    if s = t then (match E.T s with
      | some ti => (match ti.und with
        | .ptr e => (match E.T e with | some te => if te.size = 0 ∨ ti.cmp = false then none else some (a == b) | none => none)
        | _ => none)
      | none => none) else some false
  | .iface _, .p (.iface s _), .p (.iface t _) => if s = t then none else some false
  | .slice _, .p (.list .nil []), .p (.list .nil []) => some true
  | .slice _, .p (.list .lit _), .p (.list .nil []) | .slice _, .p (.list _ (_ :: _)), .p (.list .nil []) => some false
  | .slice _, .vec r n, .p (.list .nil []) => match fs.obj r with
    | some (.vec _ es _) => if n = es.length ∧ 0 < n then some false else none
    | _ => none
  | .map _ _, .p .nilmap, .p .nilmap => some true
  | .map _ _, .map _, .p .nilmap => some false
  | .func, .p .nilfn, .p .nilfn => some true
  | .func, .p (.func _ _ _), .p .nilfn | .func, .func _ _ _, .p .nilfn => some false
  | _, _, _ => none
def binV (E : En) (fs : FS) (op : BinOp) (t : Nat) (cst : Bool) (x y : V) : Option V :=
  match op, x, y with
  | .shl, .p (.int k a), .p (.int _ b) => if b < 0 then none else some (.p (.int k (k.wrap (a * 2 ^ min b.toNat k.bits))))
  | .shr, .p (.int k a), .p (.int _ b) => if b < 0 then none else some (.p (.int k (a.fdiv (2 ^ min b.toNat k.bits))))
  | op, .p (.int k a), .p (.int k' b) => if k = k' then (intOp op k a b).map .p else none
  | op, .p (.str a), .p (.str b) => (strOp op a b).map .p
  | op, x, y => match E.T t with
    | none => none
    | some ti => match op with
      | .eql => (eqlV E fs cst ti.und x y).map fun b => .p (.bool b)
      | .neq => (eqlV E fs cst ti.und x y).map fun b => .p (.bool (!b))
      | _ => none
def unV (op : UnOp) : V → Option V
  | .p (.int k n) => match op with
    | .neg => some (.p (.int k (k.wrap (0 - n))))
    | .xor => some (.p (.int k (k.wrap (BitVec.ofInt k.bits (if k.signed then -1 else k.max) ^^^ BitVec.ofInt k.bits n).toNat)))
    | _ => none
  | .p (.bool b) => match op with | .not => some (.p (.bool (!b))) | _ => none
  | _ => none
def bytesOf : List PV → Option (List UInt8)
  | [] => some []
  | .int .u8 n :: r => (bytesOf r).map (UInt8.ofNat n.toNat :: ·)
  | _ => none
def convV (E : En) (fs : FS) (src dst : Nat) (x : V) : Option V :=
  match E.T src, E.T dst with
  | some s, some d => match s.und, d.und, x with
    | .int _, .int k, .p (.int _ n) => some (.p (.int k (k.wrap n)))
    | .str, .str, .p (.str t) => some (.p (.str t))
    | .slice e, .str, x => match E.T e, expS fs x with
      | some te, some (.p (.list _ es)) => (match te.und with
        | .int .u8 => (bytesOf es).map fun b => .p (.str b)
        | _ => none)
      | _, _ => none
    | .str, .slice e, .p (.str t) => match E.T e with
      | some te => match te.und with
        | .int .u8 => some (.p (.list .unk (t.map fun b => .int .u8 b.toNat)))
        | _ => none
      | none => none
    | _, _, _ => none
  | _, _ => none
def fldOf (E : En) (t f : Nat) : Option (Nat × TI) :=
  match E.T t with
  | some ti => match ti.und with
    | .struct fs => match fs[f]? with
      | some (off, u) => match E.T u with
        | some tu => if tu.size = 0 then none else some (off, tu)
        | none => none
      | none => none
    | _ => none
  | none => none
def addOff (d : Nat) : V → Option V
  | .p (.pref cs off) => some (.p (.pref cs (off + d)))
  | .ptr r off => some (.ptr r (off + d))
  | .vptr r n i off => some (.vptr r n i (off + d))
  | _ => none
def partV (tu : TI) (off : Nat) : V → Option V
  | .p (.agg cs) => readP tu cs off
  | .agg cs => readV tu cs off
  | _ => none
def idxOf : V → Option Int
  | .p (.int _ i) => some i
  | _ => none
def indexAddrV (E : En) (fs : FS) (t : Nat) (x : V) (i : Int) : Option V :=
  if i < 0 then none else
  match E.T t with
  | some ti => match ti.und, x with
    | .slice e, .p (.list _ es) => match E.T e, es[i.toNat]? with
      | some te, some el => if el.cells.length = te.size then some (.p (.pref el.cells 0)) else none
      | _, _ => none
    | .slice e, .vec r n => match fs.obj r with
      | some (.vec _ es stab) => if n = es.length then (match E.T e, es[i.toNat]? with
        | some te, some el => if el.cells.length = te.size then (if i.toNat < stab then some (.p (.pref el.cells 0)) else some (.vptr r n i.toNat 0)) else none
        | _, _ => none) else none
      | _ => none
    | .arr n e, x => match E.T e with
      | some te => if i < n then addOff (i.toNat * te.size) x else none
      | none => none
    | _, _ => none
  | none => none
def indexV (E : En) (t : Nat) (x : V) (i : Int) : Option V :=
  if i < 0 then none else
  match E.T t with
  | some ti => match ti.und, x with
    | .str, .p (.str s) => match s[i.toNat]? with
      | some b => some (.p (.int .u8 b.toNat))
      | none => none
    | .arr n e, x => match E.T e with
      | some te => if i < n then partV te (i.toNat * te.size) x else none
      | none => none
    | _, _ => none
  | none => none
/-- A bound that may be left out. -/
def bndOf (d : Int) : Option (Option V) → Option Int
  | none => some d
  | some (some v) => idxOf v
  | some none => none
def cutL {α : Type} (l : List α) (lo hi : Int) : List α := (l.take hi.toNat).drop lo.toNat
def sliceV (E : En) (fs : FS) (t : Nat) (x : V) (lo hi mx : Option (Option V)) : Option V :=
  match E.T t with
  | none => none
  | some ti => match ti.und, x with
    | .str, .p (.str s) => match bndOf 0 lo, bndOf s.length hi, mx with
      | some l, some h, none => if 0 ≤ l ∧ l ≤ h ∧ h ≤ s.length then some (.p (.str (cutL s l h))) else none
      | _, _, _ => none
    | .slice e, x => match E.T e, expS fs x with
      | some te, some (.p (.list k es)) => match bndOf 0 lo, bndOf es.length hi, bndOf es.length mx with
        | some l, some h, some m => if 0 ≤ l ∧ l ≤ h ∧ h ≤ m ∧ m ≤ es.length ∧ (hi.isSome ∨ mx.isNone) ∧ (es.all fun x => x.cells.length == te.size) then
            some (.p (.list (if es.isEmpty then k else .unk) (cutL es l h))) else none
        | _, _, _ => none
      | _, _ => none
    | _, _ => none

def keyEq : PV → PV → Option Bool
  | .int k a, .int k' b => if k = k' then some (a == b) else none
  | .str a, .str b => some (a == b)
  | .bool a, .bool b => some (a == b)
  | _, _ => none
def findK (k : PV) : List (PV × V) → Option (Option V)
  | [] => some none
  | (a, v) :: r => match keyEq k a with
    | some true => some (some v)
    | some false => findK k r
    | none => none
def setK (k : PV) (x : V) : List (PV × V) → Option (List (PV × V))
  | [] => some [(k, x)]
  | (a, v) :: r => match keyEq k a with
    | some true => some ((k, x) :: r)
    | some false => (setK k x r).map ((a, v) :: ·)
    | none => none
def delK (k : PV) : List (PV × V) → Option (List (PV × V))
  | [] => some []
  | (a, v) :: r => match keyEq k a with
    | some true => some r
    | some false => (delK k r).map ((a, v) :: ·)
    | none => none
def keyOk : Und → PV → Bool
  | .int k, .int k' _ => k = k'
  | .str, .str _ | .bool, .bool _ => true
  | _, _ => false
def zeroV (ti : TI) : Option V :=
  if ti.ag then some (.p (.agg ti.zero)) else match ti.zero with
    | [x] => some (.p x)
    | _ => none
def mapEs (fs : FS) : V → Option (List (PV × V))
  | .p .nilmap => some []
  | .map r => match fs.obj r with
    | some (.map es) => some es
    | _ => none
  | _ => none
def lookupV (E : En) (fs : FS) (t : Nat) (x : V) (k : V) (ok : Bool) : Option V :=
  match E.T t, k with
  | some ti, .p k => match ti.und with
    | .map tk te => match E.T tk, E.T te, mapEs fs x with
      | some ik, some ie, some es => if keyOk ik.und k then (match findK k es with
        | some (some v) => some (if ok then mkTup [v, .p (.bool true)] else v)
        | some none => (zeroV ie).map fun z => if ok then mkTup [z, .p (.bool false)] else z
        | none => none) else none
      | _, _, _ => none
    | _ => none
  | _, _ => none
def mapSet (E : En) (fs : FS) (t : Nat) (m k v : V) : Option FS :=
  match E.T t, m, k with
  | some ti, .map r, .p k => match ti.und with
    | .map tk _ => match E.T tk, fs.obj r, keepS fs v with
      | some ik, some (.map es), some v => if keyOk ik.und k then (setK k v es).map fun es => fs.setObj r (.map es) else none
      | _, _, _ => none
    | _ => none
  | _, _, _ => none
def typeAssertV (E : En) (x : V) (asserted : Nat) (ok : Bool) : Option V :=
  match E.T asserted with
  | none => none
  | some ti => match ti.und, x with
    | .iface _, _ => none
    | _, .p .nilif => if ok then (zeroV ti).map fun z => mkTup [z, .p (.bool false)] else none
    | _, .p (.iface t v) => if t = asserted then some (if ok then mkTup [.p v, .p (.bool true)] else .p v)
      else if ok then (zeroV ti).map fun z => mkTup [z, .p (.bool false)] else none
    | _, _ => none
def extractV (i : Nat) : V → Option V
  | .p (.tuple vs) => (vs[i]?).map .p
  | .tuple vs => vs[i]?
  | _ => none
/-- Parts laid over zero cells: (place, value). -/
def fillV : List V → List (Nat × Nat × V) → Option (List V)
  | cs, [] => some cs
  | cs, (off, sz, v) :: r => if v.cells.length = sz ∧ off + sz ≤ cs.length ∧ okTop v then fillV (putAt cs off v.cells) r else none
def partsOf (place : Nat → Option (Nat × Nat)) (f : Operand → Option V) : List (Nat × Operand) → Option (List (Nat × Nat × V))
  | [] => some []
  | (i, x) :: r => match place i, f x, partsOf place f r with
    | some (o, s), some v, some l => some ((o, s, v) :: l)
    | _, _, _ => none
def buildV (E : En) (f : Operand → Option V) (t : Nat) (parts : List (Nat × Operand)) : Option V :=
  match E.T t with
  | none => none
  | some ti => match ti.und with
    | .struct fs => if !(fs.all fun q => (E.T q.2).isSome) then none else match partsOf (fun i => match fs[i]? with | some (o, u) => (E.T u).map fun tu => (o, tu.size) | none => none) f parts with
      | some l => (fillV (ti.zero.map .p) l).map mkAgg
      | none => none
    | .arr _ e => match E.T e with
      | some te => match partsOf (fun i => some (i * te.size, te.size)) f parts with
        | some l => (fillV (ti.zero.map .p) l).map mkAgg
        | none => none
      | none => none
    | _ => none
/-- The elements of a slice's literal. -/
def litL (f : Operand → Option PV) (size : Nat) : List PV → List (Nat × Operand) → Option (List PV)
  | es, [] => some es
  | es, (i, x) :: r => match f x with
    | some v => if v.cells.length = size ∧ i < es.length ∧ okTop (.p v) then litL f size (es.set i v) r else none
    | none => none
def buildSliceV (E : En) (f : Operand → Option PV) (t len : Nat) (parts : List (Nat × Operand)) : Option (List PV) :=
  match E.T t with
  | some ti => match ti.und with
    | .slice e => match E.T e with
      | some te => match zeroV te with
        | some (.p z) => if z.cells.length = te.size ∧ 0 < te.size ∧ len * te.size ≤ 16777216 then litL f te.size (List.replicate len z) parts else none
        | _ => none
      | none => none
    | _ => none
  | none => none

def hasA (l : List (Nat × Nat)) (r i : Nat) : Bool := l.any fun q => q.1 == r && q.2 == i
def offsA : List (Nat × Nat × List Nat) → Nat → Nat → List Nat
  | [], _, _ => []
  | (a, b, l) :: x, r, i => if a = r ∧ b = i then l else offsA x r i
def clearA : List (Nat × List Nat) → Nat → List Nat
  | [], _ => []
  | (a, l) :: x, r => if a = r then l else clearA x r

/-- Empty slices in some cells' places become ones that grow. -/
def growL (g : Bool) : List Nat → List V → FS → Option (List V × FS)
  | [], cs, fs => some (cs, fs)
  | off :: r, cs, fs => match cs[off]? with
    | some (.p (.list .nil [])) =>
      let (ref, fs) := fs.newObj g (.vec none [] 0)
      growL g r (cs.set off (.vec ref 0)) fs
    | _ => none
def growV (g : Bool) (offs : List Nat) (v : V) (fs : FS) : Option (V × FS) :=
  match offs with
  | [] => some (v, fs)
  | _ => match v with
    | .p (.agg _) | .agg _ => (growL g offs v.cells fs).map fun (cs, fs) => (mkAgg cs, fs)
    | v => match growL g offs [v] fs with
      | some ([x], fs) => some (x, fs)
      | _ => none

def lenV (fs : FS) : V → Option Nat
  | .p (.str s) => some s.length
  | .p (.list _ es) => some es.length
  | .vec r n => match fs.obj r with
    | some (.vec _ es _) => if n = es.length then some n else none
    | _ => none
  | v => (mapEs fs v).map List.length
def isSliceOrStr : Und → Bool
  | .str | .slice _ => true
  | _ => false
def isMap : Und → Bool
  | .map _ _ => true
  | _ => false
def lenOp (E : En) (fs : FS) (t : Nat) (v : V) : Option V :=
  match E.T t with
  | none => none
  | some ti => match ti.und, v with
    | .arr n _, _ => some (.p (.int .i64 n))
    | .str, .p (.str s) => some (.p (.int .i64 s.length))
    | .slice _, .p (.list _ es) => some (.p (.int .i64 es.length))
    | .slice _, .vec r n => match fs.obj r with
      | some (.vec _ es _) => if n = es.length then some (.p (.int .i64 n)) else none
      | _ => none
    | .map _ _, v => (mapEs fs v).map fun es => .p (.int .i64 es.length)
    | _, _ => none
def minMax (mx : Bool) : V → V → Option V
  | .p (.int k x), .p (.int k' y) => if k = k' then some (.p (.int k (if mx then (if y > x then y else x) else (if y < x then y else x)))) else none
  | _, _ => none
def foldO {α : Type} (f : α → α → Option α) : α → List α → Option α
  | x, [] => some x
  | x, y :: r => match f x y with
    | some z => foldO f z r
    | none => none

/-- Is it an operation that leaves the abstract state as it is? -/
def isQuiet : Op → Bool
  | .move _ | .assign _ | .pick .. | .build .. | .buildSlice .. | .load .. | .nilCheck _ | .binOp .. | .unOp .. | .convert .. | .makeInterface .. | .makeFunc .. | .slice .. | .fieldAddr .. | .field .. | .indexAddr .. | .index .. | .lookup .. | .typeAssert .. | .extract .. => true
  | .call { callee := .builtin .len, .. } | .call { callee := .builtin .min, .. } | .call { callee := .builtin .max, .. } => true
  | _ => false

def optO (f : Operand → Option V) : Option Operand → Option (Option V)
  | none => none
  | some x => some (f x)

def qV (E : En) (fs : FS) (o : Op) : Option V :=
  match o with
  | .move x | .assign x => evalO E fs.env x
  | .pick c a b => match evalO E fs.env c, evalO E fs.env a, evalO E fs.env b with
    | some (.p (.bool t)), some x, some y => some (if t then x else y)
    | _, _, _ => none
  | .build t parts => buildV E (evalO E fs.env) t parts.toList
  | .buildSlice t len parts => (buildSliceV E (fun x => (evalO E fs.env x).bind (pureA fs)) t len parts.toList).map fun es => .p (.list .lit es)
  | .load t a => match E.T t, evalO E fs.env a with
    | some ti, some v => loadV fs ti v
    | _, _ => none
  | .nilCheck x => match evalO E fs.env x with
    | some (.p (.pref cs off)) => some (.p (.pref cs off))
    | some (.ptr r off) => some (.ptr r off)
    | some (.vptr r n i off) => some (.vptr r n i off)
    | some (.p (.func (.func f) a b)) => some (.p (.func (.func f) a b))
    | some (.func (.func f) a b) => some (.func (.func f) a b)
    | _ => none
  | .binOp op t x y _ => match evalO E fs.env x, evalO E fs.env y with
    | some a, some b => binV E fs op t (isConst x || isConst y) a b
    | _, _ => none
  | .unOp op _ x => (evalO E fs.env x).bind (unV op)
  | .convert s d x => (evalO E fs.env x).bind (convV E fs s d)
  | .makeInterface t x => match E.T t, (evalO E fs.env x).bind (pureA fs) with
    | some ti, some v => (match ti.und with | .iface _ => none | _ => some (.p (.iface t v)))
    | _, _ => none
  | .makeFunc fn first captured => match mapO (fun x => (evalO E fs.env x).bind (expS fs)) first.toList, mapO (fun x => (evalO E fs.env x).bind (expS fs)) captured.toList with
    | some a, some b => some (mkFunc fn a b)
    | _, _ => none
  | .slice t x lo hi mx => (evalO E fs.env x).bind fun v => sliceV E fs t v (optO (evalO E fs.env) lo) (optO (evalO E fs.env) hi) (optO (evalO E fs.env) mx)
  | .fieldAddr t x f => match fldOf E t f, evalO E fs.env x with
    | some (off, _), some v => addOff off v
    | _, _ => none
  | .field t x f => match fldOf E t f, evalO E fs.env x with
    | some (off, tu), some v => partV tu off v
    | _, _ => none
  | .indexAddr t x i => match evalO E fs.env x, (evalO E fs.env i).bind idxOf with
    | some v, some i => indexAddrV E fs t v i
    | _, _ => none
  | .index t x i => match evalO E fs.env x, (evalO E fs.env i).bind idxOf with
    | some v, some i => indexV E t v i
    | _, _ => none
  | .lookup t x i ok => match evalO E fs.env x, evalO E fs.env i with
    | some v, some k => lookupV E fs t v k ok
    | _, _ => none
  | .typeAssert x _ t ok => (evalO E fs.env x).bind fun v => typeAssertV E v t ok
  | .extract x i => (evalO E fs.env x).bind (extractV i)
  | .call c => match c.callee, c.args.toList with
    | .builtin .len, x :: _ => match c.argTypes.toList with
      | t :: _ => (evalO E fs.env x).bind (lenOp E fs t)
      | [] => none
    | .builtin .min, x :: r => match evalO E fs.env x, mapO (evalO E fs.env) r with
      | some v, some vs => foldO (minMax false) v vs
      | _, _ => none
    | .builtin .max, x :: r => match evalO E fs.env x, mapO (evalO E fs.env) r with
      | some v, some vs => foldO (minMax true) v vs
      | _, _ => none
    | _, _ => none
  | _ => none

def q_pick (E : En) (fs : FS) (c a b : Operand) : Option V := match evalO E fs.env c, evalO E fs.env a, evalO E fs.env b with
    | some (.p (.bool t)), some x, some y => some (if t then x else y)
    | _, _, _ => none
def q_build (E : En) (fs : FS) (t : Nat) (parts : Array (Nat × Operand)) : Option V := buildV E (evalO E fs.env) t parts.toList
def q_buildSlice (E : En) (fs : FS) (t len : Nat) (parts : Array (Nat × Operand)) : Option V := (buildSliceV E (fun x => (evalO E fs.env x).bind (pureA fs)) t len parts.toList).map fun es => .p (.list .lit es)
def q_load (E : En) (fs : FS) (t : Nat) (a : Operand) : Option V := match E.T t, evalO E fs.env a with
    | some ti, some v => loadV fs ti v
    | _, _ => none
def q_nilCheck (E : En) (fs : FS) (x : Operand) : Option V := match evalO E fs.env x with
    | some (.p (.pref cs off)) => some (.p (.pref cs off))
    | some (.ptr r off) => some (.ptr r off)
    | some (.vptr r n i off) => some (.vptr r n i off)
    | some (.p (.func (.func f) a b)) => some (.p (.func (.func f) a b))
    | some (.func (.func f) a b) => some (.func (.func f) a b)
    | _ => none
def q_binOp (E : En) (fs : FS) (op : BinOp) (t : Nat) (x y : Operand) : Option V := match evalO E fs.env x, evalO E fs.env y with
    | some a, some b => binV E fs op t (isConst x || isConst y) a b
    | _, _ => none
def q_unOp (E : En) (fs : FS) (op : UnOp) (x : Operand) : Option V := (evalO E fs.env x).bind (unV op)
def q_convert (E : En) (fs : FS) (s d : Nat) (x : Operand) : Option V := (evalO E fs.env x).bind (convV E fs s d)
def q_makeInterface (E : En) (fs : FS) (t : Nat) (x : Operand) : Option V := match E.T t, (evalO E fs.env x).bind (pureA fs) with
    | some ti, some v => (match ti.und with | .iface _ => none | _ => some (.p (.iface t v)))
    | _, _ => none
def q_makeFunc (E : En) (fs : FS) (fn : Fn) (first captured : Array Operand) : Option V := match mapO (fun x => (evalO E fs.env x).bind (expS fs)) first.toList, mapO (fun x => (evalO E fs.env x).bind (expS fs)) captured.toList with
    | some a, some b => some (mkFunc fn a b)
    | _, _ => none
def q_slice (E : En) (fs : FS) (t : Nat) (x : Operand) (lo hi mx : Option Operand) : Option V := (evalO E fs.env x).bind fun v => sliceV E fs t v (optO (evalO E fs.env) lo) (optO (evalO E fs.env) hi) (optO (evalO E fs.env) mx)
def q_fieldAddr (E : En) (fs : FS) (t : Nat) (x : Operand) (f : Nat) : Option V := match fldOf E t f, evalO E fs.env x with
    | some (off, _), some v => addOff off v
    | _, _ => none
def q_field (E : En) (fs : FS) (t : Nat) (x : Operand) (f : Nat) : Option V := match fldOf E t f, evalO E fs.env x with
    | some (off, tu), some v => partV tu off v
    | _, _ => none
def q_indexAddr (E : En) (fs : FS) (t : Nat) (x i : Operand) : Option V := match evalO E fs.env x, (evalO E fs.env i).bind idxOf with
    | some v, some i => indexAddrV E fs t v i
    | _, _ => none
def q_index (E : En) (fs : FS) (t : Nat) (x i : Operand) : Option V := match evalO E fs.env x, (evalO E fs.env i).bind idxOf with
    | some v, some i => indexV E t v i
    | _, _ => none
def q_lookup (E : En) (fs : FS) (t : Nat) (x i : Operand) (ok : Bool) : Option V := match evalO E fs.env x, evalO E fs.env i with
    | some v, some k => lookupV E fs t v k ok
    | _, _ => none
def q_typeAssert (E : En) (fs : FS) (x : Operand) (t : Nat) (ok : Bool) : Option V := (evalO E fs.env x).bind fun v => typeAssertV E v t ok
def q_extract (E : En) (fs : FS) (x : Operand) (i : Nat) : Option V := (evalO E fs.env x).bind (extractV i)
def q_call (E : En) (fs : FS) (c : Call) : Option V := match c.callee, c.args.toList with
    | .builtin .len, x :: _ => match c.argTypes.toList with
      | t :: _ => (evalO E fs.env x).bind (lenOp E fs t)
      | [] => none
    | .builtin .min, x :: r => match evalO E fs.env x, mapO (evalO E fs.env) r with
      | some v, some vs => foldO (minMax false) v vs
      | _, _ => none
    | .builtin .max, x :: r => match evalO E fs.env x, mapO (evalO E fs.env) r with
      | some v, some vs => foldO (minMax true) v vs
      | _, _ => none
    | _, _ => none
/-- The same, part by part. -/
def qF (E : En) (fs : FS) (o : Op) : Option V :=
  match o with
  | .move x => evalO E fs.env x
  | .assign x => evalO E fs.env x
  | .pick c a b => q_pick E fs c a b
  | .build t parts => q_build E fs t parts
  | .buildSlice t len parts => q_buildSlice E fs t len parts
  | .load t a => q_load E fs t a
  | .nilCheck x => q_nilCheck E fs x
  | .binOp op t x y _ => q_binOp E fs op t x y
  | .unOp op _ x => q_unOp E fs op x
  | .convert s d x => q_convert E fs s d x
  | .makeInterface t x => q_makeInterface E fs t x
  | .makeFunc fn first captured => q_makeFunc E fs fn first captured
  | .slice t x lo hi mx => q_slice E fs t x lo hi mx
  | .fieldAddr t x f => q_fieldAddr E fs t x f
  | .field t x f => q_field E fs t x f
  | .indexAddr t x i => q_indexAddr E fs t x i
  | .index t x i => q_index E fs t x i
  | .lookup t x i ok => q_lookup E fs t x i ok
  | .typeAssert x _ t ok => q_typeAssert E fs x t ok
  | .extract x i => q_extract E fs x i
  | .call c => q_call E fs c
  | _ => none

/-- What is appended. -/
def moreOf (fs : FS) (v : V) : Option (List PV) :=
  match expS fs v with
  | some (.p (.list _ es)) => some es
  | some (.p (.str s)) => some (s.map fun b => .int .u8 b.toNat)
  | _ => none
def sameSize (n : Nat) : List PV → Bool
  | [] => true
  | e :: r => e.cells.length == n && sameSize n r
def appendV (E : En) (fs : FS) (g hole : Bool) (t : Nat) (x y : V) : Option (V × FS) :=
  match E.T t, moreOf fs y with
  | some ti, some ys => match ti.und with
    | .slice e => match E.T e with
      | none => none
      | some te => match x with
        | .vec r n => match fs.obj r with
          | some (.vec sz es stab) => if n = es.length ∧ stab = n ∧ (sz = none ∨ sz = some e) ∧ 0 < te.size ∧ (n + ys.length) * te.bytes ≤ 1099511627776 ∧ n + ys.length ≤ 1099511627776 ∧ sameSize te.size ys then
              some (.vec r (n + ys.length), if ys.isEmpty then fs else fs.setObj r (.vec (some e) (es ++ ys) (if hole then n else n + ys.length))) else none
          | _ => none
        | .p (.list k es) => match k, es, ys with
          | .unk, _, [] => some (x, fs)
          | .nil, [], [] => some (x, fs)
          | .lit, _, [] => some (x, fs)
          | .lit, es, ys | .nil, es, ys => if 0 < te.size ∧ (es.length + ys.length) * te.bytes ≤ 1099511627776 ∧ es.length + ys.length ≤ 1099511627776 ∧ sameSize te.size es ∧ sameSize te.size ys then
              let (r, fs) := fs.newObj g (.vec (some e) (es ++ ys) (if hole then es.length else es.length + ys.length))
              some (.vec r (es.length + ys.length), fs) else none
          | _, _, _ => none
        | _ => none
    | _ => none
  | _, _ => none

def appKind (E : En) (t : Nat) : Bool := match E.T t with
  | some ti => isSliceOrStr ti.und
  | none => false

def eV (E : En) (C : CallF) (fs : FS) (A : Ann) (rid i : Nat) (o : Op) : Option (V × FS) :=
  match o with
  | .alloc t => match E.T t with
    | some ti => (growL (hasA A.glob rid i) (offsA A.vecs rid i) (ti.zero.map .p) fs).map fun (cs, fs) =>
        let (r, fs) := fs.newObj (hasA A.glob rid i) (.cells cs)
        (.ptr r 0, fs)
    | none => none
  | .box t x => match E.T t, evalO E fs.env x with
    | some ti, some v => if v.cells.length = ti.size ∧ okTop v then
        (if hasA A.imm rid i then (match (mapO (expS fs) v.cells).bind unp with
            | some ps => some (.p (.pref ps 0), fs)
            | none => (match mapO (keepS fs) v.cells with
              | some cs => (let (r, fs) := fs.newObj true (.cells cs); some (.ptr r 0, fs))
              | none => none))
         else (match growL (hasA A.glob rid i) (offsA A.vecs rid i) v.cells fs with
           | some (cs, fs) => (match (if hasA A.glob rid i then mapO (keepS fs) cs else some cs) with
             | some cs => (let (r, fs) := fs.newObj (hasA A.glob rid i) (.cells cs); some (.ptr r 0, fs))
             | none => none)
           | none => none)) else none
    | _, _ => none
  | .store t a x => match E.T t, evalO E fs.env a, evalO E fs.env x with
    | some ti, some p, some v => match storeV fs ti p v with
      | none => none
      | some fs => if hasA A.frz rid i then
          (match a, p with
            | .tmp k, .ptr r 0 => match fs.obj r with
              | some (.cells cs) => (match (mapO (expS fs) cs).bind unp with
                | some ps => some (undefV, { fs.delObj r with env := fs.env.set k (.p (.pref ps 0)) })
                | none => none)
              | _ => none
            | _, _ => none)
        else some (undefV, fs)
    | _, _, _ => none
  | .makeSlice t l c => match E.T t, (evalO E fs.env l).bind idxOf, (evalO E fs.env c).bind idxOf with
    | some ti, some l, some c => match ti.und with
      | .slice e => match E.T e with
        | some te => if 0 ≤ l ∧ l ≤ c ∧ 0 < te.size ∧ c * te.bytes ≤ 1099511627776 ∧ c ≤ 1099511627776 then
            (if l = 0 then (let (r, fs) := fs.newObj (hasA A.glob rid i) (.vec (some e) [] 0); some (.vec r 0, fs))
             else (match zeroV te with
              | some (.p z) => if z.cells.length = te.size then
                  (let (r, fs) := fs.newObj (hasA A.glob rid i) (.vec (some e) (List.replicate l.toNat z) 0); some (.vec r l.toNat, fs)) else none
              | _ => none)) else none
        | none => none
      | _ => none
    | _, _, _ => none
  | .makeMap _ none => let (r, fs) := fs.newObj true (.map []); some (.map r, fs)
  | .mapUpdate t m k v | .insert t m k v => match evalO E fs.env m, evalO E fs.env k, evalO E fs.env v with
    | some m, some k, some v => (mapSet E fs t m k v).map fun fs => (undefV, fs)
    | _, _, _ => none
  | .call c => match c.callee with
    | .builtin .append => match c.args.toList, c.argTypes.toList with
      | [x, y], [t, tx] => match evalO E fs.env x, evalO E fs.env y with
        | some x, some y => if appKind E tx then appendV E fs (hasA A.glob rid i) (hasA A.hole rid i) t x y else none
        | _, _ => none
      | _, _ => none
    | .builtin .delete => match c.args.toList, c.argTypes.toList with
      | [m, k], t :: _ => match evalO E fs.env m, evalO E fs.env k, E.T t with
        | some (.map r), some (.p k), some ti => match ti.und, fs.obj r with
          | .map tk _, some (.map es) => match E.T tk with
            | some ik => if keyOk ik.und k then (delK k es).map fun es => (undefV, fs.setObj r (.map es)) else none
            | none => none
          | _, _ => none
        | _, _, _ => none
      | _, _ => none
    | .value f => match mapO (evalO E fs.env) c.args.toList with
     | none => none
     | some vs =>
      let fs := vs.foldl frzA fs
      match evalO E fs.env f, mapO (expA fs) vs with
      | some (.p (.func (.func g) a b)), some args => (C g (a.map .p ++ args ++ b.map .p) fs.st).map fun (v, st) => (v, { fs with st })
      | some (.func (.func g) a b), some args => if a.all globby && b.all globby then (C g (a ++ args ++ b) fs.st).map fun (v, st) => (v, { fs with st }) else none
      | _, _ => none
    | _ => none
  | _ => none

def e_alloc (E : En) (C : CallF) (fs : FS) (A : Ann) (rid i : Nat) (t : Nat) : Option (V × FS) := match E.T t with
    | some ti => (growL (hasA A.glob rid i) (offsA A.vecs rid i) (ti.zero.map .p) fs).map fun (cs, fs) =>
        let (r, fs) := fs.newObj (hasA A.glob rid i) (.cells cs)
        (.ptr r 0, fs)
    | none => none
def e_box (E : En) (C : CallF) (fs : FS) (A : Ann) (rid i : Nat) (t : Nat) (x : Operand) : Option (V × FS) := match E.T t, evalO E fs.env x with
    | some ti, some v => if v.cells.length = ti.size ∧ okTop v then
        (if hasA A.imm rid i then (match (mapO (expS fs) v.cells).bind unp with
            | some ps => some (.p (.pref ps 0), fs)
            | none => (match mapO (keepS fs) v.cells with
              | some cs => (let (r, fs) := fs.newObj true (.cells cs); some (.ptr r 0, fs))
              | none => none))
         else (match growL (hasA A.glob rid i) (offsA A.vecs rid i) v.cells fs with
           | some (cs, fs) => (match (if hasA A.glob rid i then mapO (keepS fs) cs else some cs) with
             | some cs => (let (r, fs) := fs.newObj (hasA A.glob rid i) (.cells cs); some (.ptr r 0, fs))
             | none => none)
           | none => none)) else none
    | _, _ => none
def e_store (E : En) (C : CallF) (fs : FS) (A : Ann) (rid i : Nat) (t : Nat) (a x : Operand) : Option (V × FS) := match E.T t, evalO E fs.env a, evalO E fs.env x with
    | some ti, some p, some v => match storeV fs ti p v with
      | none => none
      | some fs => if hasA A.frz rid i then
          (match a, p with
            | .tmp k, .ptr r 0 => match fs.obj r with
              | some (.cells cs) => (match (mapO (expS fs) cs).bind unp with
                | some ps => some (undefV, { fs.delObj r with env := fs.env.set k (.p (.pref ps 0)) })
                | none => none)
              | _ => none
            | _, _ => none)
        else some (undefV, fs)
    | _, _, _ => none
def e_makeSlice (E : En) (C : CallF) (fs : FS) (A : Ann) (rid i : Nat) (t : Nat) (l c : Operand) : Option (V × FS) := match E.T t, (evalO E fs.env l).bind idxOf, (evalO E fs.env c).bind idxOf with
    | some ti, some l, some c => match ti.und with
      | .slice e => match E.T e with
        | some te => if 0 ≤ l ∧ l ≤ c ∧ 0 < te.size ∧ c * te.bytes ≤ 1099511627776 ∧ c ≤ 1099511627776 then
            (if l = 0 then (let (r, fs) := fs.newObj (hasA A.glob rid i) (.vec (some e) [] 0); some (.vec r 0, fs))
             else (match zeroV te with
              | some (.p z) => if z.cells.length = te.size then
                  (let (r, fs) := fs.newObj (hasA A.glob rid i) (.vec (some e) (List.replicate l.toNat z) 0); some (.vec r l.toNat, fs)) else none
              | _ => none)) else none
        | none => none
      | _ => none
    | _, _, _ => none
def e_mapUpdate (E : En) (C : CallF) (fs : FS) (A : Ann) (rid i : Nat) (t : Nat) (m k v : Operand) : Option (V × FS) := match evalO E fs.env m, evalO E fs.env k, evalO E fs.env v with
    | some m, some k, some v => (mapSet E fs t m k v).map fun fs => (undefV, fs)
    | _, _, _ => none
def e_call (E : En) (C : CallF) (fs : FS) (A : Ann) (rid i : Nat) (c : Call) : Option (V × FS) := match c.callee with
    | .builtin .append => match c.args.toList, c.argTypes.toList with
      | [x, y], [t, tx] => match evalO E fs.env x, evalO E fs.env y with
        | some x, some y => if appKind E tx then appendV E fs (hasA A.glob rid i) (hasA A.hole rid i) t x y else none
        | _, _ => none
      | _, _ => none
    | .builtin .delete => match c.args.toList, c.argTypes.toList with
      | [m, k], t :: _ => match evalO E fs.env m, evalO E fs.env k, E.T t with
        | some (.map r), some (.p k), some ti => match ti.und, fs.obj r with
          | .map tk _, some (.map es) => match E.T tk with
            | some ik => if keyOk ik.und k then (delK k es).map fun es => (undefV, fs.setObj r (.map es)) else none
            | none => none
          | _, _ => none
        | _, _, _ => none
      | _, _ => none
    | .value f => match mapO (evalO E fs.env) c.args.toList with
     | none => none
     | some vs =>
      let fs := vs.foldl frzA fs
      match evalO E fs.env f, mapO (expA fs) vs with
      | some (.p (.func (.func g) a b)), some args => (C g (a.map .p ++ args ++ b.map .p) fs.st).map fun (v, st) => (v, { fs with st })
      | some (.func (.func g) a b), some args => if a.all globby && b.all globby then (C g (a ++ args ++ b) fs.st).map fun (v, st) => (v, { fs with st }) else none
      | _, _ => none
    | _ => none
/-- The same, part by part. -/
def eF (E : En) (C : CallF) (fs : FS) (A : Ann) (rid i : Nat) (o : Op) : Option (V × FS) :=
  match o with
  | .alloc t => e_alloc E C fs A rid i t
  | .box t x => e_box E C fs A rid i t x
  | .store t a x => e_store E C fs A rid i t a x
  | .makeSlice t l c => e_makeSlice E C fs A rid i t l c
  | .makeMap _ none => let (r, fs) := fs.newObj true (.map []); some (.map r, fs)
  | .mapUpdate t m k v => e_mapUpdate E C fs A rid i t m k v
  | .insert t m k v => e_mapUpdate E C fs A rid i t m k v
  | .call c => e_call E C fs A rid i c
  | _ => none

def opV (E : En) (C : CallF) (fs : FS) (A : Ann) (rid i : Nat) (o : Op) : Option (V × FS) :=
  match isQuiet o with
  | true => (match qF E fs o with
    | some v => growV (hasA A.glob rid i) (offsA A.vecs rid i) v fs
    | none => none)
  | false => eF E C fs A rid i o

/-- Is an operation wanted? -/
def wantV (env : Tr) (ops : List Oper) (o : Oper) : Option Bool :=
  match o.guard with
  | none => some true
  | some (j, want) => match ops[j]? with
    | some q => match q.dst with
      | some d => match (env.get d) with
        | some (.p (.bool b)) => some (b == want)
        | some (.p (.tuple [])) => some false
        | _ => none
      | none => none
    | none => none
def stepV (E : En) (C : CallF) (A : Ann) (rid : Nat) (ops : List Oper) (i : Nat) (o : Oper) (fs : FS) : Option FS :=
  match wantV fs.env ops o with
  | some true => match opV E C fs A rid i o.op with
    | some (v, fs) => some (fs.put o.dst v)
    | none => none
  | some false => some (fs.put o.dst undefV)
  | none => none
def runV (E : En) (C : CallF) (A : Ann) (rid : Nat) (ops : List Oper) : Nat → List Oper → FS → Option FS
  | _, [], fs => some fs
  | i, o :: r, fs => match stepV E C A rid ops i o fs with
    | some fs => runV E C A rid ops (i + 1) r fs
    | none => none


mutual
def PV.beq : PV → PV → Bool
  | .any, .any | .nilp, .nilp | .nilmap, .nilmap | .nilfn, .nilfn | .nilif, .nilif => true
  | .bool a, .bool b => a == b
  | .int k a, .int j b => k = j && a == b
  | .str a, .str b => a == b
  | .pref a o, .pref b p => PV.beqL a b && o == p
  | .sptr a, .sptr b => a == b
  | .list .nil a, .list .nil b | .list .lit a, .list .lit b | .list .unk a, .list .unk b => PV.beqL a b
  | .agg a, .agg b => PV.beqL a b
  | .func f a b, .func g c d => f = g && PV.beqL a c && PV.beqL b d
  | .iface s a, .iface t b => s == t && PV.beq a b
  | .tuple a, .tuple b => PV.beqL a b
  | _, _ => false
def PV.beqL : List PV → List PV → Bool
  | [], [] => true
  | a :: r, b :: s => PV.beq a b && PV.beqL r s
  | _, _ => false
end
def Ref.beq : Ref → Ref → Bool
  | .loc a, .loc b | .glob a, .glob b => a == b
  | _, _ => false
mutual
def V.beq : V → V → Bool
  | .p a, .p b => PV.beq a b
  | .ptr a i, .ptr b j => Ref.beq a b && i == j
  | .vptr a i j k, .vptr b l m n => Ref.beq a b && i == l && j == m && k == n
  | .vec a i, .vec b j => Ref.beq a b && i == j
  | .map a, .map b => Ref.beq a b
  | .agg a, .agg b => V.beqL a b
  | .func f a b, .func g c d => f = g && V.beqL a c && V.beqL b d
  | .tuple a, .tuple b => V.beqL a b
  | _, _ => false
def V.beqL : List V → List V → Bool
  | [], [] => true
  | a :: r, b :: s => V.beq a b && V.beqL r s
  | _, _ => false
end
def beqM : List (PV × V) → List (PV × V) → Bool
  | [], [] => true
  | (k, a) :: r, (j, b) :: s => PV.beq k j && V.beq a b && beqM r s
  | _, _ => false
def Obj.beq : Obj → Obj → Bool
  | .cells a, .cells b => V.beqL a b
  | .vec z a i, .vec y b j => z == y && PV.beqL a b && i == j
  | .map a, .map b => beqM a b
  | _, _ => false
def oBeq : Option Obj → Option Obj → Bool
  | none, none => true
  | some a, some b => Obj.beq a b
  | _, _ => false

/-- The objects that a value names outright. -/
def refs1 : V → List Ref
  | .ptr r _ | .vptr r _ _ _ | .vec r _ | .map r => [r]
  | _ => []
def refsV : V → List Ref
  | .agg cs => cs.flatMap refs1
  | .tuple cs => cs.flatMap fun v => match v with | .agg ds => ds.flatMap refs1 | v => refs1 v
  | .func _ a b => (a ++ b).flatMap refs1
  | v => refs1 v
def readsOf (env : Tr) (o : Op) : List Ref := o.operands.toList.flatMap fun x => match x with
  | .tmp t => match (env.get t) with | some v => refsV v | none => []
  | _ => []

/-- Does a quiet operation look into objects? -/
def peeks : Op → Bool
  | .move _ | .assign _ | .pick .. | .build .. | .nilCheck _ | .unOp .. | .fieldAddr .. | .field .. | .index .. | .typeAssert .. | .extract .. => false
  | _ => true
/-- The objects that a quiet operation looks into. -/
def rdO (env : Tr) (o : Op) : List Ref := if peeks o then readsOf env o else []

/-- What an operation in a region whose order is open has done: it was quiet, and what it looked at; it wrote one object at most (the names ahead of it); it called. -/
inductive Rec where
  | rd (i : Nat) (l : List Ref)
  | wr (i : Nat) (l : List Ref) (nid next : Nat)
  | ca (i : Nat) (s s' : St) (l : List Ref)
def refsO (env : Tr) : Operand → List Ref
  | .tmp t => match (env.get t) with
    | some v => refs1 v
    | none => []
  | _ => []
/-- The object that an operation may write: that of its first operand. -/
def wrO (env : Tr) : Op → List Ref
  | .store _ a _ => refsO env a
  | .mapUpdate _ m _ _ | .insert _ m _ _ => refsO env m
  | .call c => match c.callee, c.args.toList with
    | .builtin _, x :: _ => refsO env x
    | _, _ => []
  | _ => []
/-- The temporaries that an operation looks at. -/
def tmpsO (o : Op) : List Nat := o.operands.toList.filterMap fun x => match x with
  | .tmp t => some t
  | _ => none
/-- The temporaries of a list, alone. -/
def maskE (ts : List Nat) (env : Tr) : Tr :=
  ts.foldl (fun e t => match (env.get t) with | some v => e.set t v | none => e) (env.map fun _ => anyV)
/-- A number behind all names. -/
def bigN : Nat := 9223372036854775808
/-- The objects of a list, alone. -/
def maskQ (ts : List Nat) (rs : List Ref) (fs : FS) : FS where
  env := maskE ts fs.env
  locs := rs.filterMap fun r => match r with
    | .loc id => (lkp fs.locs id).map fun o => (id, o)
    | .glob _ => none
  nid := bigN
  st := { objs := fun n => if rs.any (Ref.beq (.glob n)) then fs.st.objs n else none, next := bigN }
def isCall : Op → Bool
  | .call c => match c.callee with | .value _ => true | _ => false
  | _ => false
def hoisted (o : Oper) : Bool := match o.op, o.guard with
  | .alloc _, none => true
  | _, _ => false
def hoistV (E : En) (C : CallF) (A : Ann) (rid : Nat) : Nat → List Oper → FS → Option FS
  | _, [], fs => some fs
  | i, o :: r, fs => if hoisted o then (if (offsA A.vecs rid i).isEmpty then (match eV E C fs A rid i o.op with
      | some (v, fs) => hoistV E C A rid (i + 1) r (fs.put o.dst v)
      | none => none) else none) else hoistV E C A rid (i + 1) r fs
/-- One operation of such a region. -/
def stepD (E : En) (C : CallF) (A : Ann) (rid : Nat) (ops : List Oper) (i : Nat) (o : Oper) (fs : FS) : Option (FS × Option Rec) :=
  match wantV fs.env ops o with
  | some true =>
    if isQuiet o.op then
      (if (offsA A.vecs rid i).isEmpty then (match qF E fs o.op with
        | some v => some (fs.put o.dst v, some (.rd i (rdO fs.env o.op)))
        | none => none) else none)
    else if hasA A.frz rid i then none
    else (match eF E C fs A rid i o.op with
      | some (v, fs2) => some (FS.put { fs2 with env := fs.env } o.dst v, some (if isCall o.op then .ca i fs.st fs2.st (readsOf fs.env o.op) else .wr i (wrO fs.env o.op) fs.nid fs.st.next))
      | none => none)
  | some false => some (fs.put o.dst undefV, none)
  | none => none
def runD (E : En) (C : CallF) (A : Ann) (rid : Nat) (ops : List Oper) : Nat → List Oper → FS → List Rec → Option (FS × List Rec)
  | _, [], fs, l => some (fs, l)
  | i, o :: r, fs, l => if hoisted o then runD E C A rid ops (i + 1) r fs l else
    if fs.nid ≤ bigN ∧ fs.st.next ≤ bigN then (match stepD E C A rid ops i o fs with
      | some (fs', some q) => runD E C A rid ops (i + 1) r fs' (q :: l)
      | some (fs', none) => runD E C A rid ops (i + 1) r fs' l
      | none => none) else none
/-- Which operations stand ahead of each, as a number's bits. -/
def befs (ops : List Oper) : List Nat :=
  ops.foldl (init := []) fun acc o => acc ++ [o.after.toList.foldl (fun s e => if Region.binds .any e then s ||| 2 ^ e.on ||| acc.getD e.on 0 else s) 0]
def ordered (m : List Nat) (i j : Nat) : Bool := (m.getD (max i j) 0).testBit (min i j)
def apart (r : Ref) (l : List Ref) : Bool := l.all fun q => !Ref.beq r q
/-- An effect leaves an object as it was. -/
def offR (r : Ref) : Rec → Bool
  | .rd _ _ => true
  | .wr _ ws nid next => apart r ws && match r with
    | .loc id => decide (id < nid)
    | .glob n => decide (n < next)
  | .ca _ s s' ws => match r with
    | .loc id => apart (.loc id) ws
    | .glob n => oBeq (s.objs n) (s'.objs n)
def same1 (m : List Nat) (i : Nat) (l : List Ref) : Rec → Bool
  | .rd _ _ => true
  | .wr j ws nid next => ordered m i j || l.all fun r => offR r (.wr j ws nid next)
  | .ca j s s' ws => ordered m i j || l.all fun r => offR r (.ca j s s' ws)
def effOrd (m : List Nat) (i : Nat) : Rec → Bool
  | .rd _ _ => true
  | .wr j _ _ _ | .ca j _ _ _ => ordered m i j
def recOk (m : List Nat) (all : List Rec) : Rec → Bool
  | .rd _ [] => true
  | .rd i l => all.all (same1 m i l)
  | .wr i _ _ _ | .ca i _ _ _ => all.all fun r => effOrd m i r || (match r with | .wr j _ _ _ | .ca j _ _ _ => i == j | .rd _ _ => true)
/-- An effect behind a hoisted operation, or apart from its object. -/
def apartH (m : List Nat) (i : Nat) (r : Ref) : Rec → Bool
  | .rd _ _ => true
  | .wr j ws nid next => (decide (i < j) && ordered m i j) || offR r (.wr j ws nid next)
  | .ca j s s' ws => (decide (i < j) && ordered m i j) || offR r (.ca j s s' ws)
def hoistOk (m : List Nat) (all : List Rec) (env : Tr) : Nat → List Oper → Bool
  | _, [] => true
  | i, o :: rest => (if hoisted o then (match o.dst with
      | some d => match (env.get d) with
        | some (.ptr r 0) => all.all (apartH m i r)
        | _ => false
      | none => false) else true) && hoistOk m all env (i + 1) rest
/-- What an operation looks at: its operands, and what guards it. -/
def looksD (ops : List Oper) (o : Oper) : List Nat :=
  tmpsO o.op ++ match o.guard with
    | some (g, _) => match ops[g]? with
      | some q => q.dst.toList
      | none => []
    | none => []

/-- Of a region's text: results in places of their own; what is looked at stands ahead, or is overwritten behind. -/
def textOk (ops : List Oper) : Bool :=
  let m := befs ops
  (ops.zipIdx.all fun (o, i) => (o.after.toList.all fun e => !Region.binds .any e || decide (e.on < i)) &&
    (ops.zipIdx.all fun (q, j) => match q.dst with
      | none => true
      | some d => (i == j || o.dst != some d) && (!(looksD ops o).contains d || (decide (j < i) && ordered m j i) || (decide (i < j) && ordered m i j && !hoisted q))))
/-- All regions of a code whose order is drawn. -/
def codeOk : Code → Bool
  | .region _ ops draw => !draw || textOk ops.toList
  | .seq a b => codeOk a && codeOk b
  | .cond _ a b => codeOk a && codeOk b
  | .block _ b => codeOk b
  | .loop b => codeOk b
  | _ => true
def drawV (E : En) (C : CallF) (A : Ann) (rid : Nat) (ops : List Oper) (fs : FS) : Option FS :=
  match hoistV E C A rid 0 ops fs with
  | none => none
  | some fs0 => match runD E C A rid ops 0 ops fs0 [] with
    | some (fs, l) => if decide (fs.nid ≤ bigN) && decide (fs.st.next ≤ bigN) && l.all (recOk (befs ops) l) && hoistOk (befs ops) l fs0.env 0 ops then some fs else none
    | none => none
def regionV (E : En) (C : CallF) (A : Ann) (rid : Nat) (ops : List Oper) (draw : Bool) (fs : FS) : Option FS :=
  if draw then drawV E C A rid ops fs else runV E C A rid ops 0 ops fs

/-- How a piece of code ends. -/
inductive Ex where
  | normal | exit (id : Nat) | ret

def firstRegion : Code → Option Nat
  | .region id _ _ => some id
  | .seq a b => match firstRegion a with | some r => some r | none => firstRegion b
  | .cond _ a b => match firstRegion a with | some r => some r | none => firstRegion b
  | .block _ b => firstRegion b
  | .loop b => firstRegion b
  | .scope b => firstRegion b
  | _ => none
def clearE (l : List Nat) (env : Tr) : Tr := l.foldl (fun e t => e.set t anyV) env
def refLt (n : Nat) : Ref → Bool
  | .loc id => decide (id < n)
  | .glob _ => true
def vLt1 (n : Nat) : V → Bool
  | .p _ => true
  | .ptr r _ | .vptr r _ _ _ | .vec r _ | .map r => refLt n r
  | _ => false
def vLt (n : Nat) : V → Bool
  | .agg cs => cs.all (vLt1 n)
  | .func _ a b => a.all (vLt1 n) && b.all (vLt1 n)
  | .tuple cs => cs.all (vLt1 n)
  | v => vLt1 n v
def oLt (n : Nat) : Obj → Bool
  | .cells cs => cs.all (vLt n)
  | .vec _ _ _ => true
  | .map es => es.all fun q => vLt n q.2
/-- At a round's head: what is dead is forgotten, the objects of the round ahead, too. -/
def headV (nid : Nat) (cl : List Nat) (fs : FS) : Option FS :=
  let env := clearE cl fs.env
  let locs := fs.locs.filter fun q => q.1 < nid
  if env.all (vLt nid) && locs.all (fun q => oLt nid q.2) then some { env, locs, nid, st := fs.st } else none

/-- One piece of code behind another. -/
def thenV (x : Option (Ex × FS)) (f : FS → Option (Ex × FS)) : Option (Ex × FS) := match x with
  | some (.normal, fs) => f fs
  | some (.exit k, fs) => some (.exit k, fs)
  | some (.ret, fs) => some (.ret, fs)
  | none => none
def blockV (id : Nat) (x : Option (Ex × FS)) : Option (Ex × FS) := match x with
  | some (.exit k, fs) => match Nat.beq k id with
    | true => some (.normal, fs)
    | false => some (.exit k, fs)
  | some (.normal, fs) => some (.normal, fs)
  | some (.ret, fs) => some (.ret, fs)
  | none => none
def loopN (f : FS → Option (Ex × FS)) (head : FS → Option FS) : Nat → FS → Option (Ex × FS)
  | 0, _ => none
  | n + 1, fs => match head fs with
    | none => none
    | some fs => thenV (f fs) (loopN f head n)
/-- The code with 'n' rounds of each loop at most. -/
def execN (E : En) (C : CallF) (A : Ann) (n : Nat) : Code → FS → Option (Ex × FS)
  | .skip, fs => some (.normal, fs)
  | .region id ops draw, fs => match regionV E C A id ops.toList draw fs with
    | some fs => some (.normal, fs)
    | none => none
  | .seq a b, fs => thenV (execN E C A n a fs) (execN E C A n b)
  | .cond c a b, fs => match evalO E fs.env c with
    | some (.p (.bool true)) => execN E C A n a fs
    | some (.p (.bool false)) => execN E C A n b fs
    | _ => none
  | .block id b, fs => blockV id (execN E C A n b fs)
  | .loop b, fs => loopN (execN E C A n b) (headV fs.nid (clearA A.clear ((firstRegion b).getD 0))) n fs
  | .exit id, fs => some (.exit id, fs)
  | .ret, fs => some (.ret, fs)
  | _, _ => none

def resOf (E : En) (fs : FS) : List ResultVar → Option (List V)
  | [] => some []
  | .tmp t :: r => match (fs.env.get t), resOf E fs r with
    | some v, some l => some (v :: l)
    | _, _ => none
  | .cell a t :: r => match (fs.env.get a), E.T t, resOf E fs r with
    | some p, some ti, some l => (loadV fs ti p).map (· :: l)
    | _, _, _ => none
def resV (E : En) (fs : FS) (rs : List ResultVar) : Option V :=
  match resOf E fs rs with
  | some [v] => some v
  | some vs => some (mkTup vs)
  | none => none
def finishV (E : En) (fn : Func) (A : Ann) (next : Nat) : Option (Ex × FS) → Option (V × St)
  | some (.normal, fs) | some (.ret, fs) => match resV E fs fn.results.toList with
    | some v => if A.keep then (keepT (frzKT fs v) v).map fun v' => (v', (frzKT fs v).st) else (expT (frzT fs v) v).map fun v' => (v', (frzT fs v).st.cut next)
    | none => none
  | _ => none
def enterV (fn : Func) (args : List V) (st : St) : FS :=
  { env := Tr.lay args 0 (Tr.mk undefV (fn.ntmps + args.length) (max fn.ntmps args.length)), locs := [], nid := 0, st }
def callN (E : En) : Nat → CallF
  | 0, _, _, _ => none
  | n + 1, f, args, st => match E.summ f with
    | some s => s args st
    | none => match E.P.funcs[f]? with
      | some fn => match fn.body with
        | some b => finishV E fn (E.A f) st.next (execN E (callN E n) (E.A f) n b (enterV fn args st))
        | none => none
      | none => none


def undOf : TypeDesc → Und
  | .bool => .bool
  | .int k => .int k
  | .string => .str
  | .pointer e => .ptr e
  | .slice e => .slice e
  | .array n e => .arr n e
  | .map k e => .map k e
  | .struct fs => .struct (fs.toList.map fun f => (f.offset, f.type))
  | .func .. => .func
  | .interface ms => .iface (!ms.isEmpty)
  | _ => .oth
def aggD : TypeDesc → Bool
  | .struct _ | .array _ _ => true
  | _ => false
def isAggV : Value → Bool
  | .agg _ => true
  | _ => false
/-- What the evaluator asks of a type, off the program's own table. -/
def tiOf (P : Program) (t : Nat) : Option TI :=
  match P.info? t, P.underlying t with
  | some i, some d => match i.zero with
    | some z => match scals z.cells.toList with
      | some zs => if isAggV z = aggD d ∧ zs.length = i.size then some { size := i.size, bytes := i.bytes, ag := aggD d, cmp := i.comparable, und := undOf d, zero := zs } else none
      | none => none
    | none => none
  | _, _ => none

end
end Go.AE

namespace Go.AE
open Go

theorem Tr.get_nil (i : Nat) : Tr.nil.get i = none := rfl
theorem Tr.get_zero (v : V) (l r : Tr) : (Tr.node v l r).get 0 = some v := rfl
theorem Tr.get_succ (v : V) (l r : Tr) (j : Nat) : (Tr.node v l r).get (j + 1) = match Nat.beq (j % 2) 0 with | true => l.get (j / 2) | false => r.get (j / 2) := rfl
theorem Tr.set_nil (i : Nat) (x : V) : Tr.nil.set i x = .nil := rfl
theorem Tr.set_zero (v x : V) (l r : Tr) : (Tr.node v l r).set 0 x = .node x l r := rfl
theorem Tr.set_succ (v x : V) (l r : Tr) (j : Nat) : (Tr.node v l r).set (j + 1) x = match Nat.beq (j % 2) 0 with | true => .node v (l.set (j / 2) x) r | false => .node v l (r.set (j / 2) x) := rfl

theorem Tr.get_set (t : Tr) (x : V) : ∀ i j, (t.set i x).get j = if i = j then (t.get j).map (fun _ => x) else t.get j := by
  induction t with
  | nil => intro i j; simp [Tr.set_nil, Tr.get_nil]
  | node v l r ihl ihr =>
    intro i j
    cases i with
    | zero =>
      cases j with
      | zero => simp [Tr.set_zero, Tr.get_zero]
      | succ j => simp [Tr.set_zero, Tr.get_succ]
    | succ i =>
      rw [Tr.set_succ]
      cases hi : Nat.beq (i % 2) 0 with
      | true =>
        have hi' := Nat.eq_of_beq_eq_true hi
        cases j with
        | zero => simp [Tr.get_zero]
        | succ j =>
          simp only [Tr.get_succ]
          cases hj : Nat.beq (j % 2) 0 with
          | true =>
            have hj' := Nat.eq_of_beq_eq_true hj
            simp only [ihl]
            have : (i / 2 = j / 2) ↔ (i + 1 = j + 1) := by omega
            simp only [this]
          | false =>
            have hj' := Nat.ne_of_beq_eq_false hj
            simp only
            rw [if_neg (by omega)]
      | false =>
        have hi' := Nat.ne_of_beq_eq_false hi
        cases j with
        | zero => simp [Tr.get_zero]
        | succ j =>
          simp only [Tr.get_succ]
          cases hj : Nat.beq (j % 2) 0 with
          | true =>
            have hj' := Nat.eq_of_beq_eq_true hj
            simp only
            rw [if_neg (by omega)]
          | false =>
            have hj' := Nat.ne_of_beq_eq_false hj
            simp only [ihr]
            have : (i / 2 = j / 2) ↔ (i + 1 = j + 1) := by omega
            simp only [this]

theorem Tr.get_set_ne {t : Tr} {x : V} {i j : Nat} (h : i ≠ j) : (t.set i x).get j = t.get j := by rw [Tr.get_set, if_neg h]

/-- The same places. -/
def Tr.dom (t s : Tr) : Prop := ∀ i, (t.get i).isSome = (s.get i).isSome
theorem Tr.dom_refl (t : Tr) : t.dom t := fun _ => rfl
theorem Tr.dom.symm {t s : Tr} (h : t.dom s) : s.dom t := fun i => (h i).symm
theorem Tr.dom.trans {t s u : Tr} (h : t.dom s) (g : s.dom u) : t.dom u := fun i => (h i).trans (g i)
theorem Tr.dom_set (t : Tr) (i : Nat) (x : V) : (t.set i x).dom t := fun j => by
  rw [Tr.get_set]
  split
  · cases t.get j <;> rfl
  · rfl

theorem Tr.ext {t s : Tr} (h : ∀ i, t.get i = s.get i) : t = s := by
  induction t generalizing s with
  | nil =>
    cases s with
    | nil => rfl
    | node v l r => have := h 0; simp [Tr.get_nil, Tr.get_zero] at this
  | node v l r ihl ihr =>
    cases s with
    | nil => have := h 0; simp [Tr.get_nil, Tr.get_zero] at this
    | node u l' r' =>
      have h0 := h 0
      simp only [Tr.get_zero, Option.some.injEq] at h0
      subst h0
      have hl : l = l' := ihl fun i => by
        have := h (2 * i + 1)
        simp only [Tr.get_succ] at this
        have e1 : 2 * i % 2 = 0 := by omega
        have e2 : 2 * i / 2 = i := by omega
        rw [e1, e2] at this
        exact this
      have hr : r = r' := ihr fun i => by
        have := h (2 * i + 1 + 1)
        simp only [Tr.get_succ] at this
        have e1 : (2 * i + 1) % 2 = 1 := by omega
        have e2 : (2 * i + 1) / 2 = i := by omega
        rw [e1, e2] at this
        exact this
      rw [hl, hr]

theorem Tr.get_map (f : V → V) (t : Tr) : ∀ i, (t.map f).get i = (t.get i).map f := by
  induction t with
  | nil => intro i; rfl
  | node v l r ihl ihr =>
    intro i
    cases i with
    | zero => rfl
    | succ j =>
      simp only [Tr.map, Tr.get_succ]
      split
      · exact ihl _
      · exact ihr _

theorem Tr.all_get {f : V → Bool} {t : Tr} (h : t.all f = true) : ∀ i v, t.get i = some v → f v = true := by
  induction t with
  | nil => intro i v hv; cases hv
  | node u l r ihl ihr =>
    have e : (Tr.node u l r).all f = match f u with | true => (match l.all f with | true => r.all f | false => false) | false => false := rfl
    rw [e] at h
    cases hu : f u with
    | false => rw [hu] at h; cases h
    | true =>
      rw [hu] at h
      simp only at h
      cases hl : l.all f with
      | false => rw [hl] at h; cases h
      | true =>
        rw [hl] at h
        simp only at h
        intro i v hv
        cases i with
        | zero =>
          rw [Tr.get_zero] at hv
          simp only [Option.some.injEq] at hv
          subst hv; exact hu
        | succ j =>
          rw [Tr.get_succ] at hv
          split at hv
          · exact ihl hl _ v hv
          · exact ihr h _ v hv

theorem Tr.get_mk (x : V) : ∀ (k c i : Nat), c ≤ k → (Tr.mk x k c).get i = if i < c then some x else none := by
  intro k
  induction k with
  | zero => intro c i h; have : c = 0 := by omega
            subst this; rfl
  | succ k ih =>
    intro c i h
    cases c with
    | zero => rfl
    | succ m =>
      simp only [Tr.mk]
      cases i with
      | zero => simp [Tr.get_zero]
      | succ j =>
        rw [Tr.get_succ]
        split
        · rename_i hj
          have hj := Nat.eq_of_beq_eq_true hj
          rw [ih _ _ (by omega)]
          by_cases hlt : j < m
          · rw [if_pos (by omega), if_pos (by omega)]
          · rw [if_neg (by omega), if_neg (by omega)]
        · rename_i hj
          have hj := Nat.ne_of_beq_eq_false hj
          rw [ih _ _ (by omega)]
          by_cases hlt : j < m
          · rw [if_pos (by omega), if_pos (by omega)]
          · rw [if_neg (by omega), if_neg (by omega)]

theorem Tr.get_lay : ∀ (vs : List V) (i : Nat) (t : Tr) (j : Nat), (Tr.lay vs i t).get j = if i ≤ j ∧ j < i + vs.length then (t.get j).bind (fun _ => vs[j - i]?) else t.get j := by
  intro vs
  induction vs with
  | nil => intro i t j; rw [if_neg (by simp)]; rfl
  | cons v r ih =>
    intro i t j
    simp only [Tr.lay, ih, Tr.get_set, List.length_cons]
    by_cases h1 : i + 1 ≤ j ∧ j < i + 1 + r.length
    · rw [if_pos h1, if_neg (show ¬ i = j by omega), if_pos (by omega)]
      have : j - i = j - (i + 1) + 1 := by omega
      rw [this, List.getElem?_cons_succ]
    · rw [if_neg h1]
      by_cases h2 : i = j
      · subst h2
        rw [if_pos rfl, if_pos (by omega)]
        simp only [Nat.sub_self, List.getElem?_cons_zero]
        cases t.get i <;> rfl
      · rw [if_neg h2, if_neg (by omega)]

theorem Tr.dom_lay : ∀ (vs : List V) (i : Nat) (t : Tr), (Tr.lay vs i t).dom t := by
  intro vs
  induction vs with
  | nil => intro i t; exact Tr.dom_refl t
  | cons v r ih => intro i t; exact (ih (i + 1) _).trans (Tr.dom_set t i v)
theorem qF_eq (E : En) (fs : FS) (o : Op) : qF E fs o = qV E fs o := by cases o <;> rfl
theorem eF_eq (E : En) (C : CallF) (fs : FS) (A : Ann) (rid i : Nat) (o : Op) : eF E C fs A rid i o = eV E C fs A rid i o := by
  cases o with
  | makeMap t r => cases r <;> rfl
  | _ => rfl
theorem opV_eq (E : En) (C : CallF) (fs : FS) (A : Ann) (rid i : Nat) (o : Op) : opV E C fs A rid i o = if isQuiet o then (qV E fs o).bind fun v => growV (hasA A.glob rid i) (offsA A.vecs rid i) v fs else eV E C fs A rid i o := by
  unfold opV
  rw [qF_eq, eF_eq]
  cases isQuiet o with
  | true => rw [if_pos rfl]; cases qV E fs o <;> rfl
  | false => rw [if_neg (by simp)]
end Go.AE
