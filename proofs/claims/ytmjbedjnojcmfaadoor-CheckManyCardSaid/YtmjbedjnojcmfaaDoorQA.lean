/- A part of the proofs of which programs may be: QA. -/
import Derived.Orders
import Derived.Below
import Derived.KernelRfl
import Derived.Laws.Rows
import Derived.Laws.Cells
import Derived.Laws.World
import Derived.WalkKit
namespace Go.Proofs.YtmjbedjnojcmfaaDoor.Ex

inductive Ty where
  | int (k : IntKind) | bool | str | sl (e : Ty) | mu (n : Nat) | st (f : Ty) | pair (a b : Ty)
  deriving DecidableEq

def Den (C : Nat → Type) : Ty → Type
  | .int _ => Int
  | .bool => Bool
  | .str => ByteArray
  | .sl e => List (Den C e)
  | .mu n => C n
  | .st f => Den C f
  | .pair a b => Den C a × Den C b

class RT where
  C : Nat → Type
  body : Nat → Ty
  unf : (n : Nat) → C n → Den C (body n)
  fld : (n : Nat) → Den C (body n) → C n
  uf : ∀ n x, unf n (fld n x) = x
  fu : ∀ n x, fld n (unf n x) = x

section
variable [RT]
abbrev D (t : Ty) : Type := Den RT.C t

inductive AV where
  | undef
  | int (k : IntKind) (n : Int)
  | bool (b : Bool)
  | str (s : ByteArray)
  | nil
  | sl (e : Ty) (l : List (D e))
  | ptr (id off : Nat)
  | row (id : Nat)
  | eptr (id sz i off : Nat)
  | sub (id sz lo hi : Nat)
  | vsl (e : Ty) (id sz n : Nat)
  | view (cs : List AV) (off : Nat)
  | clo (f : FuncId) (first caps : List AV)
  | agg (cs : List AV)
  | tup (vs : List AV)

inductive Blk where
  | box (cs : List AV)
  | row (e : Ty) (l : List (D e))

def Ty.size : Ty → Nat
  | .st f => f.size
  | .pair a b => a.size + b.size
  | _ => 1

def eTy : Ty → Ty
  | .mu n => RT.body n
  | t => t

abbrev eVal : (t : Ty) → D t → D (eTy t)
  | .mu n, d => RT.unf n d
  | .int _, d => d
  | .bool, d => d
  | .str, d => d
  | .sl _, d => d
  | .st _, d => d
  | .pair _ _, d => d

abbrev eMk : (t : Ty) → D (eTy t) → D t
  | .mu n, d => RT.fld n d
  | .int _, d => d
  | .bool, d => d
  | .str, d => d
  | .sl _, d => d
  | .st _, d => d
  | .pair _ _, d => d

def expand : (t : Ty) → D t → List AV
  | .int k, d => [.int k d]
  | .bool, d => [.bool d]
  | .str, d => [.str d]
  | .sl e, d => [.sl e d]
  | .mu _, _ => [.undef]
  | .st f, d => expand f d
  | .pair a b, d => expand a d.1 ++ expand b d.2

def zcells : Ty → List AV
  | .int k => [.int k 0]
  | .bool => [.bool false]
  | .str => [.str ByteArray.empty]
  | .sl _ => [.nil]
  | .mu _ => [.undef]
  | .st f => zcells f
  | .pair a b => zcells a ++ zcells b

def castL (e e' : Ty) (l : List (D e)) : Option (List (D e')) := if h : e = e' then some (h ▸ l) else none

def tInt (k : IntKind) : List AV → Option (Int × List AV)
  | .int k' n :: r => if k = k' then some (n, r) else none
  | _ => none
def tBool : List AV → Option (Bool × List AV)
  | .bool b :: r => some (b, r)
  | _ => none
def tStr : List AV → Option (ByteArray × List AV)
  | .str s :: r => some (s, r)
  | _ => none
def tSl (e : Ty) : List AV → Option (List (D e) × List AV)
  | .sl e' l :: r => (castL e' e l).bind fun x => some (x, r)
  | .nil :: r => some ([], r)
  | _ => none

def take1 : (t : Ty) → List AV → Option (D t × List AV)
  | .int k, cs => tInt k cs
  | .bool, cs => tBool cs
  | .str, cs => tStr cs
  | .sl e, cs => tSl e cs
  | .mu _, _ => none
  | .st f, cs => take1 f cs
  | .pair a b, cs => (take1 a cs).bind fun x => (take1 b x.2).bind fun y => some ((x.1, y.1), y.2)

def collapse (t : Ty) (cs : List AV) : Option (D t) :=
  match take1 t cs with
  | some (d, []) => some d
  | _ => none

structure Foot where
  rd : List Nat
  wr : List Nat

structure Hp where
  blks : List (Nat × Blk)
  c : Nat

def findB : List (Nat × Blk) → Nat → Option Blk
  | [], _ => none
  | (k, b) :: r, id => bif k.beq id then some b else findB r id

def setB : List (Nat × Blk) → Nat → Blk → List (Nat × Blk)
  | [], _, _ => []
  | (k, b) :: r, id, b' => bif k.beq id then (k, b') :: r else (k, b) :: setB r id b'

def delB : List (Nat × Blk) → Nat → List (Nat × Blk)
  | [], _ => []
  | (k, b) :: r, id => bif k.beq id then delB r id else (k, b) :: delB r id

abbrev Tm := List (Nat × AV)

def getT : Tm → Nat → AV
  | [], _ => .undef
  | (k, v) :: r, t => bif k.beq t then v else getT r t

inductive Prog : Type → Type 1 where
  | ret {α : Type} (a : α) : Prog α
  | fail {α : Type} : Prog α
  | ite {α : Type} (b : Bool) (p q : Prog α) : Prog α
  | opt {α β : Type} (x : Option β) (k : β → Prog α) : Prog α
  | alt {α β γ : Type} (x : β ⊕ γ) (k : β → Prog α) (l : γ → Prog α) : Prog α
  | get {α : Type} (id : Nat) (k : Blk → Prog α) : Prog α
  | put {α : Type} (id : Nat) (b : Blk) (k : Prog α) : Prog α
  | new {α : Type} (b : Blk) (k : Nat → Prog α) : Prog α
  | del {α : Type} (id : Nat) (k : Prog α) : Prog α
  | ctr {α : Type} (k : Nat → Prog α) : Prog α
  | seek {α : Type} (n : Nat) (k : Prog α) : Prog α
  | trace {α β : Type} (p : Prog β) (k : β → Foot → Prog α) : Prog α
  | norm {α : Type} (base : Nat) (keep : List Nat) (T : Tm) (k : Tm → Prog α) : Prog α
  | glob {α β : Type} (g : Hp → Option (β × Hp)) (k : β → Prog α) : Prog α

namespace Prog
def bind : {α β : Type} → Prog α → (α → Prog β) → Prog β
  | _, _, .ret a, f => f a
  | _, _, .fail, _ => .fail
  | _, _, .ite b p q, f => .ite b (p.bind f) (q.bind f)
  | _, _, .opt x k, f => .opt x fun b => (k b).bind f
  | _, _, .alt x k l, f => .alt x (fun b => (k b).bind f) (fun c => (l c).bind f)
  | _, _, .get id k, f => .get id fun b => (k b).bind f
  | _, _, .put id b k, f => .put id b (k.bind f)
  | _, _, .new b k, f => .new b fun n => (k n).bind f
  | _, _, .del id k, f => .del id (k.bind f)
  | _, _, .ctr k, f => .ctr fun n => (k n).bind f
  | _, _, .seek n k, f => .seek n (k.bind f)
  | _, _, .trace p k, f => .trace p fun b ft => (k b ft).bind f
  | _, _, .norm base keep T k, f => .norm base keep T fun T' => (k T').bind f
  | _, _, .glob g k, f => .glob g fun r => (k r).bind f
end Prog

mutual
/-- The names in a value. -/
def AV.ids : AV → List Nat
  | .ptr id _ => [id]
  | .row id => [id]
  | .eptr id _ _ _ => [id]
  | .sub id _ _ _ => [id]
  | .vsl _ id _ _ => [id]
  | .view cs _ => AV.idsL cs
  | .clo _ first caps => AV.idsL first ++ AV.idsL caps
  | .agg cs => AV.idsL cs
  | .tup vs => AV.idsL vs
  | _ => []
def AV.idsL : List AV → List Nat
  | [] => []
  | v :: r => v.ids ++ AV.idsL r
end

mutual
/-- A value under other names. -/
def AV.ren (ρ : Nat → Option Nat) : AV → AV
  | .ptr id off => match ρ id with | some n => .ptr n off | none => .undef
  | .row id => match ρ id with | some n => .row n | none => .undef
  | .eptr id sz i off => match ρ id with | some n => .eptr n sz i off | none => .undef
  | .sub id sz lo hi => match ρ id with | some n => .sub n sz lo hi | none => .undef
  | .vsl e id sz k => match ρ id with | some n => .vsl e n sz k | none => .undef
  | .view cs off => .view (AV.renL ρ cs) off
  | .clo f first caps => .clo f (AV.renL ρ first) (AV.renL ρ caps)
  | .agg cs => .agg (AV.renL ρ cs)
  | .tup vs => .tup (AV.renL ρ vs)
  | v => v
def AV.renL (ρ : Nat → Option Nat) : List AV → List AV
  | [] => []
  | v :: r => v.ren ρ :: AV.renL ρ r
end

def Blk.ren (ρ : Nat → Option Nat) : Blk → Blk
  | .box cs => .box (AV.renL ρ cs)
  | .row e l => .row e l

def Blk.ids : Blk → List Nat
  | .box cs => AV.idsL cs
  | .row _ _ => []

def hasN : List Nat → Nat → Bool
  | [], _ => false
  | k :: r, n => bif k.beq n then true else hasN r n

def idxN : List Nat → Nat → Nat → Option Nat
  | [], _, _ => none
  | k :: r, n, i => bif k.beq n then some i else idxN r n (i + 1)

def leB (a b : Nat) : Bool := Nat.ble a b

def reach (base : Nat) (bs : List (Nat × Blk)) : Nat → List Nat → List Nat → List Nat
  | 0, _, acc => acc.reverse
  | _ + 1, [], acc => acc.reverse
  | n + 1, id :: todo, acc =>
    bif leB base id && !hasN acc id then
      match findB bs id with
      | some b => reach base bs n (b.ids ++ todo) (id :: acc)
      | none => reach base bs n todo acc
    else reach base bs n todo acc

def extIds (base : Nat) : List (Nat × Blk) → List Nat
  | [] => []
  | (k, b) :: r => bif leB base k then extIds base r else b.ids ++ extIds base r

def extB (base : Nat) (ρ : Nat → Option Nat) : List (Nat × Blk) → List (Nat × Blk)
  | [] => []
  | (k, b) :: r => bif leB base k then extB base ρ r else (k, b.ren ρ) :: extB base ρ r

def newB (ρ : Nat → Option Nat) (bs : List (Nat × Blk)) : Nat → List Nat → List (Nat × Blk)
  | _, [] => []
  | i, id :: r => match findB bs id with
    | some b => (i, b.ren ρ) :: newB ρ bs (i + 1) r
    | none => newB ρ bs (i + 1) r

def renOf (base : Nat) (order : List Nat) (id : Nat) : Option Nat :=
  bif leB base id then idxN order id base else some id

def keepT (ρ : Nat → Option Nat) (T : Tm) : List Nat → Tm
  | [] => []
  | t :: r => (t, (getT T t).ren ρ) :: keepT ρ T r

def idsT (T : Tm) : List Nat → List Nat
  | [] => []
  | t :: r => (getT T t).ids ++ idsT T r

def nodupN : List Nat → Bool
  | [] => true
  | k :: r => !hasN r k && nodupN r

def normOrder (base : Nat) (keep : List Nat) (T : Tm) (bs : List (Nat × Blk)) : List Nat :=
  reach base bs 400 (idsT T keep ++ extIds base bs) []

def addR (tr : Bool) (f : Foot) (id : Nat) : Foot := bif tr then { f with rd := id :: f.rd } else f
def addW (tr : Bool) (f : Foot) (id : Nat) : Foot := bif tr then { f with wr := id :: f.wr } else f

def run {R : Type} : {α : Type} → Prog α → Bool → Hp → Foot → (α → Hp → Foot → Option R) → Option R
  | _, .ret a, _, h, f, K => K a h f
  | _, .fail, _, _, _, _ => none
  | _, .ite b p q, tr, h, f, K => cond b (run p tr h f K) (run q tr h f K)
  | _, .opt x k, tr, h, f, K => x.bind fun b => run (k b) tr h f K
  | _, .alt x k l, tr, h, f, K => x.elim (fun b => run (k b) tr h f K) (fun c => run (l c) tr h f K)
  | _, .get id k, tr, h, f, K => match findB h.blks id with
    | some b => run (k b) tr h (addR tr f id) K
    | none => none
  | _, .put id b k, tr, h, f, K => match findB h.blks id with
    | some _ => run k tr { h with blks := setB h.blks id b } (addW tr f id) K
    | none => none
  | _, .new b k, tr, h, f, K => run (k h.c) tr { blks := (h.c, b) :: h.blks, c := h.c + 1 } (addW tr f h.c) K
  | _, .del id k, tr, h, f, K => match findB h.blks id with
    | some _ => run k tr { h with blks := delB h.blks id } (addW tr f id) K
    | none => none
  | _, .ctr k, tr, h, f, K => run (k h.c) tr h f K
  | _, .seek n k, tr, h, f, K => bif leB h.c n then run k tr { h with c := n } f K else none
  | _, .trace p k, tr, h, f, K => run p true h { rd := [], wr := [] } fun b h' f' => run (k b f') tr h' { rd := f'.rd ++ f.rd, wr := f'.wr ++ f.wr } K
  | _, .norm base keep T k, tr, h, f, K =>
    bif tr then none else
    let order := normOrder base keep T h.blks
    bif nodupN order && leB base h.c then run (k (keepT (renOf base order) T keep)) tr { blks := extB base (renOf base order) h.blks ++ newB (renOf base order) h.blks base order, c := base + order.length } f K
    else none
  | _, .glob g k, tr, h, f, K => bif tr then none else (g h).bind fun r => run (k r.1) tr r.2 f K
end
end Go.Proofs.YtmjbedjnojcmfaaDoor.Ex

namespace Go.Proofs.YtmjbedjnojcmfaaDoor.Ex
set_option linter.unusedSectionVars false
section
variable [RT]

structure TInfo where
  ty : Ty
  bytes : Nat
  elem : TypeId
  flds : List (Nat × Nat)
  cmp : Bool := false

structure Ctx where
  tab : List (TypeId × TInfo)
  spec : FuncId → Option (List AV → Prog AV)
  inl : FuncId → Option Func
  lps : Nat → Nat → Option (Nat → Tm → Prog (Nat × Tm))
  fuel : Nat
  spn : Nat := 1048576
  vr : Bool := false

def tiL : List (TypeId × TInfo) → TypeId → Option TInfo
  | [], _ => none
  | (k, i) :: r, t => bif k.beq t then some i else tiL r t

def ofConst : Value → AV
  | .int k n => .int k n
  | .bool b => .bool b
  | .string s => .str s
  | .slice none 0 0 => .nil
  | _ => .undef

def evO (T : Tm) : Operand → AV
  | .tmp t => getT T t
  | .const v => ofConst v
  | .func f => .clo f [] []
  | .global _ => .undef

def evL (T : Tm) : List Operand → List AV
  | [] => []
  | x :: r => evO T x :: evL T r

def cellsOf : AV → Option (List AV)
  | .agg cs => some cs
  | .undef => none
  | .tup _ => none
  | v => some [v]

def isSt : Ty → Bool
  | .st _ => true
  | _ => false

def pack (τ : Ty) (cs : List AV) : AV := bif isSt τ then .agg cs else match cs with
  | [v] => v
  | _ => .undef

def subL (cs : List AV) (off n : Nat) : Option (List AV) := bif leB (off + n) cs.length then some ((cs.drop off).take n) else none

def flatV : AV → Bool
  | .undef => false
  | .agg _ => false
  | .tup _ => false
  | _ => true

def flatL : List AV → Bool
  | [] => true
  | v :: r => flatV v && flatL r

def splice (cs : List AV) (off : Nat) (vs : List AV) : List AV := cs.take off ++ vs ++ cs.drop (off + vs.length)

def freeze : List AV → (List AV → Prog AV) → Prog AV
  | [], k => k []
  | .row id :: r, k => .get id fun
    | .row e l => .del id (freeze r fun r' => k (.sl e l :: r'))
    | .box _ => .fail
  | v :: r, k => freeze r fun r' => k (v :: r')

def binI (op : BinOp) (k : IntKind) (a b : Int) : Option AV :=
  match op with
  | .add => some (.int k (k.wrap (a + b)))
  | .sub => some (.int k (k.wrap (a - b)))
  | .mul => some (.int k (k.wrap (a * b)))
  | .and => some (.int k (k.wrap (BitVec.ofInt k.bits a &&& BitVec.ofInt k.bits b).toNat))
  | .or => some (.int k (k.wrap (BitVec.ofInt k.bits a ||| BitVec.ofInt k.bits b).toNat))
  | .xor => some (.int k (k.wrap (BitVec.ofInt k.bits a ^^^ BitVec.ofInt k.bits b).toNat))
  | .andNot => some (.int k (k.wrap (BitVec.ofInt k.bits a &&& ~~~(BitVec.ofInt k.bits b)).toNat))
  | .eql => some (.bool (a == b))
  | .neq => some (.bool (a != b))
  | .lss => some (.bool (decide (a < b)))
  | .leq => some (.bool (decide (a ≤ b)))
  | .gtr => some (.bool (decide (a > b)))
  | .geq => some (.bool (decide (a ≥ b)))
  | _ => none

def shI (op : BinOp) (k : IntKind) (a b : Int) : Option AV :=
  match op with
  | .shl => some (.int k (k.wrap (a * 2 ^ (min b.toNat k.bits))))
  | .shr => some (.int k (a.fdiv (2 ^ (min b.toNat k.bits))))
  | _ => none

def divI (op : BinOp) (k : IntKind) (a b : Int) : Option AV :=
  match op with
  | .quo => some (.int k (k.wrap (a.tdiv b)))
  | .rem => some (.int k (a.tmod b))
  | _ => none

def isDiv : BinOp → Bool
  | .quo | .rem => true
  | _ => false

def isSh : BinOp → Bool
  | .shl | .shr => true
  | _ => false

def strB (op : BinOp) (a b : ByteArray) : Option AV :=
  match op with
  | .eql => some (.bool (a.toList == b.toList))
  | .neq => some (.bool (!(a.toList == b.toList)))
  | .lss => some (.bool (Op.bytesLess a.toList b.toList))
  | .leq => some (.bool (Op.bytesLess a.toList b.toList || a.toList == b.toList))
  | .gtr => some (.bool (!(Op.bytesLess a.toList b.toList || a.toList == b.toList)))
  | .geq => some (.bool (!Op.bytesLess a.toList b.toList))
  | _ => none

def eInt : List AV → List AV → Option (Bool × List AV × List AV)
  | .int k a :: r, .int k' b :: s => if k = k' then some (a == b, r, s) else none
  | _, _ => none
def eBool : List AV → List AV → Option (Bool × List AV × List AV)
  | .bool a :: r, .bool b :: s => some (a == b, r, s)
  | _, _ => none

def eStr : List AV → List AV → Option (Bool × List AV × List AV)
  | .str a :: r, .str b :: s => some (a.toList == b.toList, r, s)
  | _, _ => none

def eqTy : Ty → List AV → List AV → Option (Bool × List AV × List AV)
  | .int _, x, y => eInt x y
  | .bool, x, y => eBool x y
  | .str, x, y => eStr x y
  | .st f, x, y => eqTy f x y
  | .pair a b, x, y => (eqTy a x y).bind fun p => (eqTy b p.2.1 p.2.2).bind fun q => some (p.1 && q.1, q.2.1, q.2.2)
  | _, _, _ => none

def eqAgg (τ : Ty) (x y : List AV) : Option Bool :=
  match eqTy τ x y with
  | some (b, [], []) => some b
  | _ => none

def isBool : Ty → Bool
  | .bool => true
  | _ => false

def binP (ti : TypeId → Option TInfo) (op : BinOp) (xT : TypeId) (x y : AV) : Prog AV :=
  match x, y with
  | .int k a, .int k' b =>
    bif isSh op then .ite (decide (b < 0)) .fail (.opt (shI op k a b) .ret)
    else if k = k' then (bif isDiv op then .ite (decide (b = 0)) .fail (.opt (divI op k a b) .ret) else .opt (binI op k a b) .ret)
    else .fail
  | .bool a, .bool b => .opt (ti xT) fun i => bif isBool i.ty then match op with
    | .eql => .ret (.bool (a == b))
    | .neq => .ret (.bool (!(a == b)))
    | _ => .fail
    else .fail
  | .str a, .str b => .opt (strB op a b) .ret
  | .agg x, .agg y => .opt (ti xT) fun i => bif !i.cmp then .fail else .opt (eqAgg i.ty x y) fun b => match op with
    | .eql => .ret (.bool b)
    | .neq => .ret (.bool (!b))
    | _ => .fail
  | _, _ => .fail

def fillP (flds : List (Nat × Nat)) (T : Tm) : List (Nat × Operand) → List AV → Option (List AV)
  | [], cs => some cs
  | (i, x) :: r, cs => match flds[i]?, cellsOf (evO T x) with
    | some (off, n), some vs => bif Nat.beq vs.length n && leB (off + n) cs.length then fillP flds T r (splice cs off vs) else none
    | _, _ => none

def elemsP (e : Ty) (T : Tm) : Nat → List (Nat × Operand) → (List (D e) → Prog AV) → Prog AV
  | _, [], k => k []
  | j, (i, x) :: r, k => bif i.beq j then .opt (cellsOf (evO T x)) fun vs => freeze vs fun vs' => .opt (collapse (eTy e) vs') fun d => elemsP e T (j + 1) r fun l => k (eMk e d :: l)
    else .fail

def ownC : List AV → Bool
  | [] => false
  | .row _ :: _ => true
  | .vsl _ _ _ _ :: _ => true
  | .nil :: _ => true
  | _ :: r => ownC r
def needV (T : Tm) : List (Nat × Operand) → Bool
  | [] => false
  | (_, x) :: r => match cellsOf (evO T x) with
    | some cs => bif ownC cs then true else needV T r
    | none => needV T r
def cellsV (T : Tm) (sz : Nat) : Nat → List (Nat × Operand) → Option (List AV)
  | _, [] => some []
  | j, (i, x) :: r => match cellsOf (evO T x), cellsV T sz (j + 1) r with
    | some vs, some cs => bif i.beq j && Nat.beq vs.length sz then some (vs ++ cs) else none
    | _, _ => none

def zeroD (e : Ty) : Option (D e) := (collapse (eTy e) (zcells (eTy e))).map (eMk e)

def slTy : Ty → Option Ty
  | .sl e => some e
  | _ => none

def isSl : Ty → Bool
  | .sl _ => true
  | _ => false

def isStr : Ty → Bool
  | .str => true
  | _ => false

def lim : Nat := 140737488355328

def content (x : AV) (e : Ty) (k : List (D e) → Prog AV) : Prog AV :=
  match x with
  | .nil => k []
  | .sl e' l => .opt (castL e' e l) k
  | .row id => .get id fun
    | .row e' l => .opt (castL e' e l) k
    | .box _ => .fail
  | .sub id sz lo hi => .get id fun
    | .row e' l => bif Nat.beq sz (eTy e').size then .opt (castL e' e ((l.take hi).drop lo)) k else .fail
    | .box _ => .fail
  | _ => .fail

def lenP (τ : Ty) (x : AV) : Prog AV :=
  match x with
  | .nil => bif isSl τ then .ret (.int .i64 0) else .fail
  | .sl _ l => bif isSl τ then .ret (.int .i64 (l.length : Nat)) else .fail
  | .row id => bif isSl τ then .get id fun
    | .row _ l => .ret (.int .i64 (l.length : Nat))
    | .box _ => .fail
    else .fail
  | .vsl _ _ _ n => bif isSl τ then .ret (.int .i64 (n : Nat)) else .fail
  | .str s => bif isStr τ then .ret (.int .i64 (s.size : Nat)) else .fail
  | _ => .fail

def foldI (f : Int → Int → Int) : IntKind → Int → List AV → Option AV
  | k, a, [] => some (.int k a)
  | k, a, .int k' b :: r => if k = k' then foldI f k (f a b) r else none
  | _, _, _ => none

def appendP (ie : TInfo) (e : Ty) (s : AV) (l' : List (D e)) : Prog AV :=
  match s with
  | .nil => .ite (decide ((0 + l'.length + 1) * ie.bytes ≤ lim)) (.new (.row e l') fun id => .ret (.row id)) .fail
  | .row id => .get id fun
    | .row e1 l1 => .opt (castL e1 e l1) fun l => .ite (decide ((l.length + l'.length + 1) * ie.bytes ≤ lim)) (.del id (.new (.row e (l ++ l')) fun id' => .ret (.row id'))) .fail
    | .box _ => .fail
  | _ => .fail

def clearP (e : Ty) (id sz lo hi : Nat) : Prog AV :=
  .ite (decide (hi ≤ lo)) (.ret (.tup [])) (.get id fun
    | .row e1 l1 => .opt (castL e1 e l1) fun l => bif Nat.beq sz (eTy e).size then .opt (zeroD e) fun z => .ite (decide (hi ≤ l.length)) (.put id (.row e (l.take lo ++ List.replicate (hi - lo) z ++ l.drop hi)) (.ret (.tup []))) .fail else .fail
    | .box _ => .fail)

def builtinP (ti : TypeId → Option TInfo) (b : Builtin) (aT : List TypeId) (args : List AV) : Prog AV :=
  match b, aT, args with
  | .len, [t], [x] => .opt (ti t) fun i => lenP i.ty x
  | .max, _, .int k a :: r => .opt (foldI (fun x y => if y > x then y else x) k a r) .ret
  | .min, _, .int k a :: r => .opt (foldI (fun x y => if y < x then y else x) k a r) .ret
  | .append, [t, t'], [s, x] => .opt (ti t) fun i => .opt (ti i.elem) fun ie => .opt (slTy i.ty) fun e =>
    bif Nat.beq t t' && !Nat.beq ie.bytes 0 then content x e fun l' => appendP ie e s l' else .fail
  | .clear, [t], [.sub id sz lo hi] => .opt (ti t) fun i => .opt (slTy i.ty) fun e => clearP e id sz lo hi
  | _, _, _ => .fail

def isZ : AV → Bool
  | .int _ n => n == 0
  | _ => false
def isBy : Ty → Bool
  | .sl (.int .u8) => true
  | _ => false
def bytesOf (l : List (D (.int .u8))) : ByteArray := List.foldl (fun (r : ByteArray) (n : Int) => r.push (UInt8.ofNat n.toNat)) ByteArray.empty l
def isSlV : AV → Bool
  | .sl _ _ => true
  | .nil => true
  | .row _ => true
  | _ => false

def fldTy (off : Nat) : Ty → Nat → Option (Nat × Ty)
  | .pair a _, 0 => some (off, a)
  | .pair a b, n + 1 => fldTy (off + a.size) b n
  | f, 0 => some (off, f)
  | _, _ => none

def opP (cx : Ctx) (cal : FuncId → List AV → Prog AV) (T : Tm) (o : Oper) : Prog AV :=
  let ti := tiL cx.tab
  match o.op with
  | .move x | .assign x => .ret (evO T x)
  | .pick c a b => match evO T c with
    | .bool v => .ite v (.ret (evO T a)) (.ret (evO T b))
    | _ => .fail
  | .alloc t => .opt (ti t) fun i => .new (.box (zcells i.ty)) fun id => .ret (.ptr id 0)
  | .box _ x => .opt (cellsOf (evO T x)) fun cs => .new (.box cs) fun id => .ret (.ptr id 0)
  | .load t p => .opt (ti t) fun i => match evO T p with
    | .ptr id off => .get id fun
      | .box cs => .opt (subL cs off i.ty.size) fun ds => .ret (pack i.ty ds)
      | .row _ _ => .fail
    | .view cs off => .opt (subL cs off i.ty.size) fun ds => .ret (pack i.ty ds)
    | .eptr id sz j off => .get id fun
      | .row e l => bif Nat.beq sz (eTy e).size then .opt l[j]? fun d => .opt (subL (expand (eTy e) (eVal e d)) off i.ty.size) fun ds => .ret (pack i.ty ds) else .fail
      | .box _ => .fail
    | _ => .fail
  | .store t p x => .opt (ti t) fun i => .opt (cellsOf (evO T x)) fun vs => bif Nat.beq vs.length i.ty.size && flatL vs then
      match evO T p with
      | .ptr id off => .get id fun
        | .box cs => bif leB (off + vs.length) cs.length then .put id (.box (splice cs off vs)) (.ret .undef) else .fail
        | .row _ _ => .fail
      | .eptr id sz j off => freeze vs fun vs' => .get id fun
        | .row e l => bif Nat.beq sz (eTy e).size then .opt l[j]? fun d =>
          bif leB (off + vs'.length) (eTy e).size then .opt (collapse (eTy e) (splice (expand (eTy e) (eVal e d)) off vs')) fun d' => .put id (.row e (l.set j (eMk e d'))) (.ret .undef) else .fail
          else .fail
        | .box _ => .fail
      | _ => .fail
    else .fail
  | .fieldAddr s x f => .opt (ti s) fun i => .opt (i.flds[f]?) fun p => bif Nat.beq p.2 0 || !isSt i.ty then .fail else match evO T x with
    | .ptr id off => .ret (.ptr id (off + p.1))
    | .view cs off => .ret (.view cs (off + p.1))
    | .eptr id sz j off => .ret (.eptr id sz j (off + p.1))
    | _ => .fail
  | .field t x f => .opt (ti t) fun i => match i.ty, evO T x with
    | .st g, .agg cs => .opt (fldTy 0 g f) fun p => .opt (subL cs p.1 p.2.size) fun ds => .ret (pack p.2 ds)
    | _, _ => .fail
  | .indexAddr t x ix => .opt (ti t) fun i => .opt (ti i.elem) fun ie => bif isSl i.ty then
    match evO T x, evO T ix with
    | .sl e l, .int _ n => bif Nat.beq ie.ty.size (eTy e).size then .ite (decide (0 ≤ n)) (.opt l[n.toNat]? fun d => .ret (.view (expand (eTy e) (eVal e d)) 0)) .fail else .fail
    | .row id, .int _ n => .get id fun
      | .row e l => bif Nat.beq ie.ty.size (eTy e).size then .ite (decide (0 ≤ n)) (.opt l[n.toNat]? fun _ => .ret (.eptr id (eTy e).size n.toNat 0)) .fail else .fail
      | .box _ => .fail
    | .vsl _ id sz m, .int _ n => bif Nat.beq ie.ty.size sz then .ite (decide (0 ≤ n ∧ n.toNat < m)) (.ret (.ptr id (n.toNat * sz))) .fail else .fail
    | _, _ => .fail
    else .fail
  | .binOp op xT x y _ => binP ti op xT (evO T x) (evO T y)
  | .unOp op _ x => match op, evO T x with
    | .not, .bool b => .ret (.bool (!b))
    | .neg, .int k n => .ret (.int k (k.wrap (0 - n)))
    | _, _ => .fail
  | .convert src dst x => .opt (ti src) fun i => .opt (ti dst) fun j => match j.ty, evO T x with
    | .int k, .int _ n => .ret (.int k (k.wrap n))
    | .str, .str s => .ret (.str s)
    | .str, y => bif isBy i.ty then content y (.int .u8) fun l => .ret (.str (bytesOf l)) else .fail
    | _, _ => .fail
  | .build t ps => .opt (ti t) fun i => bif isSt i.ty then .opt (fillP i.flds T ps.toList (zcells i.ty)) fun cs => .ret (.agg cs) else .fail
  | .buildSlice t n ps => .opt (ti t) fun i => .opt (ti i.elem) fun _ => .opt (slTy i.ty) fun e => bif Nat.beq ps.toList.length n && leB (n * (eTy e).size) 65536 then
      bif needV T ps.toList && cx.vr then (bif leB 1 (n * (eTy e).size) then .opt (cellsV T (eTy e).size 0 ps.toList) fun cs => .new (.box cs) fun id => .ret (.vsl e id (eTy e).size n) else .fail)
      else elemsP e T 0 ps.toList fun l => .new (.row e l) fun id => .ret (.row id)
    else .fail
  | .makeSlice t n c => .opt (ti t) fun i => .opt (ti i.elem) fun ie => .opt (slTy i.ty) fun e => match evO T n, evO T c with
    | .int .i64 a, .int .i64 b => .ite (decide (0 ≤ a ∧ a = b ∧ a.toNat * (ie.bytes + 1) ≤ lim)) (.opt (zeroD e) fun z => .new (.row e (List.replicate a.toNat z)) fun id => .ret (.row id)) .fail
    | _, _ => .fail
  | .slice t x lo hi mx => .opt (ti t) fun i => match mx with
    | some m => bif isSl i.ty && isSlV (evO T x) && isZ (match lo with | some y => evO T y | none => AV.int .i64 0) && isZ (match hi with | some y => evO T y | none => AV.undef) && isZ (evO T m) then .opt (ti i.elem) fun _ => .ret .nil else .fail
    | none =>
      match evO T x, (match lo with | some y => evO T y | none => AV.int .i64 0) with
      | .sl e s, .int _ a => bif isSl i.ty then .opt (ti i.elem) fun ie => bif Nat.beq ie.ty.size (eTy e).size then
        match (match hi with | some y => evO T y | none => AV.int .i64 (s.length : Nat)) with
        | .int _ b => .ite (decide (0 ≤ a ∧ a ≤ b ∧ b ≤ (s.length : Nat))) (.ret (.sl e ((s.take b.toNat).drop a.toNat))) .fail
        | _ => .fail
        else .fail else .fail
      | .row id, .int _ a => bif isSl i.ty then .opt (ti i.elem) fun ie => .get id fun
          | .row e l => bif Nat.beq ie.ty.size (eTy e).size then
            match (match hi with | some y => evO T y | none => AV.int .i64 (l.length : Nat)) with
            | .int _ b => .ite (decide (0 ≤ a ∧ a ≤ b ∧ b ≤ (l.length : Nat))) (.ret (.sub id (eTy e).size a.toNat b.toNat)) .fail
            | _ => .fail
            else .fail
          | .box _ => .fail
        else .fail
      | .str s, .int _ a => bif isStr i.ty then
        match (match hi with | some y => evO T y | none => AV.int .i64 (s.size : Nat)) with
        | .int _ b => .ite (decide (0 ≤ a ∧ a ≤ b ∧ b ≤ (s.size : Nat))) (.ret (.str (s.extract a.toNat b.toNat))) .fail
        | _ => .fail
        else .fail
      | _, _ => .fail
  | .extract t i => match evO T t with
    | .tup vs => .opt vs[i]? .ret
    | _ => .fail
  | .makeFunc fn first caps => match fn with
    | .func f => .ret (.clo f (evL T first.toList) (evL T caps.toList))
    | _ => .fail
  | .nilCheck x => match evO T x with
    | .ptr id off => .ret (.ptr id off)
    | .view cs off => .ret (.view cs off)
    | .eptr id sz j off => .ret (.eptr id sz j off)
    | .clo f a b => .ret (.clo f a b)
    | _ => .fail
  | .call c => match c.callee with
    | .builtin b => builtinP ti b c.argTypes.toList (evL T c.args.toList)
    | .value f => match evO T f with
      | .clo g first caps => cal g (first ++ evL T c.args.toList ++ caps)
      | _ => .fail
    | .invoke _ _ => .fail
  | .index t x ix => .opt (ti t) fun i => bif isStr i.ty then
    match evO T x, evO T ix with
    | .str s, .int _ n => .ite (decide (0 ≤ n)) (.opt s[n.toNat]? fun b => .ret (.int .u8 (b.toNat : Nat))) .fail
    | _, _ => .fail
    else .fail
  | _ => .fail

def putT (T : Tm) (dst : Option Tmp) (v : AV) : Tm :=
  match dst with
  | some d => (d, v) :: T
  | none => T

def dstOf (ops : List Oper) (j : Nat) : Option Tmp := (ops[j]?).bind (·.dst)

def inN (n : Nat) : Option Tmp → Bool
  | some d => leB (d + 1) n
  | none => true

def stepP (cx : Ctx) (cal : FuncId → List AV → Prog AV) (n : Nat) (ops : List Oper) (T : Tm) (o : Oper) : Prog Tm :=
  bif inN n o.dst then match o.guard with
  | none => (opP cx cal T o).bind fun v => .ret (putT T o.dst v)
  | some (j, want) => match dstOf ops j with
    | none => .fail
    | some g => match getT T g with
      | .bool b => .ite b
        (bif want then (opP cx cal ((g, .bool true) :: T) o).bind fun v => .ret (putT ((g, .bool true) :: T) o.dst v) else .ret (putT ((g, .bool true) :: T) o.dst (.tup [])))
        (bif want then .ret (putT ((g, .bool false) :: T) o.dst (.tup [])) else (opP cx cal ((g, .bool false) :: T) o).bind fun v => .ret (putT ((g, .bool false) :: T) o.dst v))
      | .tup [] => .ret (putT T o.dst (.tup []))
      | _ => .fail
  else .fail

def seqP (cx : Ctx) (cal : FuncId → List AV → Prog AV) (n : Nat) (ops : List Oper) : List Oper → Tm → Prog Tm
  | [], T => .ret T
  | o :: r, T => (stepP cx cal n ops T o).bind fun T' => seqP cx cal n ops r T'



def meet (a b : List Nat) : Bool := a.any fun x => hasN b x

def needs (o : Oper) : List Nat := (o.after.toList.filter fun e => Region.binds .any e).map fun e => e.on

def isAhead (ops : List Oper) : Nat → Nat → Nat → Bool
  | 0, _, _ => false
  | n + 1, i, j => match ops[j]? with
    | none => false
    | some o => hasN (needs o) i || (needs o).any fun m => leB (i + 1) m && isAhead ops n i m

def clash (a b : Foot) : Bool := meet a.wr b.rd || meet a.rd b.wr || meet a.wr b.wr

def apartP (ops : List Oper) (j : Nat) (f : Foot) : Nat → List Foot → Bool
  | _, [] => true
  | i, g :: r => (bif clash g f then isAhead ops ops.length i j else true) && apartP ops j f (i + 1) r

def drawP (cx : Ctx) (cal : FuncId → List AV → Prog AV) (n : Nat) (ops : List Oper) (c0 : Nat) : List Oper → Nat → List Foot → Tm → Prog Tm
  | [], j, _, T => .seek (c0 + j * cx.spn) (.ret T)
  | o :: r, j, fs, T => .seek (c0 + j * cx.spn) (.trace (stepP cx cal n ops T o) fun T' f => bif apartP ops j f 0 fs then drawP cx cal n ops c0 r (j + 1) (fs ++ [f]) T' else .fail)

def lookT (T : Tm) : List Nat → Tm
  | [] => []
  | t :: r => (t, getT T t) :: lookT T r

def tmpL : List Operand → List Nat
  | [] => []
  | .tmp t :: r => t :: tmpL r
  | _ :: r => tmpL r

def looks (ops : List Oper) (o : Oper) : List Nat :=
  tmpL o.op.operands.toList ++ match o.guard with
    | some (g, _) => (dstOf ops g).toList
    | none => []

def hasO (l : List Nat) : Option Nat → Bool
  | some d => hasN l d
  | none => false

def tmpClash (ops : List Oper) (x y : Oper) : Bool :=
  hasO (looks ops y) x.dst || hasO (looks ops x) y.dst || hasO y.dst.toList x.dst

def tmpsOkAt (ops : List Oper) (j : Nat) (y : Oper) : Nat → List Oper → Bool
  | _, [] => true
  | i, x :: r => (bif leB (i + 1) j && tmpClash ops x y then isAhead ops ops.length i j else true) && tmpsOkAt ops j y (i + 1) r

def tmpsOk (ops : List Oper) : Nat → List Oper → Bool
  | _, [] => true
  | j, y :: r => tmpsOkAt ops j y 0 ops && (needs y).all (fun m => leB (m + 1) j) && tmpsOk ops (j + 1) r

def iterP (f : Tm → Prog (Nat × Tm)) : Nat → Tm → Prog (Nat × Tm)
  | 0, _ => .fail
  | n + 1, T => (f T).bind fun e => match e.1 with
    | 0 => iterP f n e.2
    | _ => .ret e

structure Fx where
  id : Nat
  n : Nat
  keep : List Nat
  base : Nat

def evC (cx : Ctx) (cal : FuncId → List AV → Prog AV) (fx : Fx) : Nat → Code → Tm → Prog (Nat × Tm)
  | _, .skip, T => .ret (0, T)
  | _, .region _ ops d, T =>
    (bif d then bif tmpsOk ops.toList 0 ops.toList then Prog.ctr fun c0 => drawP cx cal fx.n ops.toList c0 ops.toList 0 [] T else .fail
      else seqP cx cal fx.n ops.toList ops.toList T).bind fun T' => .ret (0, lookT T' fx.keep)
  | b, .seq x y, T => (evC cx cal fx b x T).bind fun e => match e.1 with
    | 0 => evC cx cal fx b y e.2
    | _ => .ret e
  | b, .cond c x y, T => match c with
    | .tmp t => match getT T t with
      | .bool v => .ite v (evC cx cal fx b x ((t, .bool true) :: T)) (evC cx cal fx b y ((t, .bool false) :: T))
      | _ => .fail
    | .const (.bool v) => bif v then evC cx cal fx b x T else evC cx cal fx b y T
    | _ => .fail
  | _, .block id x, T => (evC cx cal fx id x T).bind fun e => .ret (bif Nat.beq e.1 (2 + id) then 0 else e.1, e.2)
  | b, .loop x, T => match cx.lps fx.id b with
    | some p => p fx.base T
    | none => iterP (evC cx cal fx b x) cx.fuel T
  | _, .exit id, T => .ret (2 + id, T)
  | _, .ret, T => .ret (1, T)
  | _, _, _ => .fail

def resP (ti : TypeId → Option TInfo) (T : Tm) : List ResultVar → (List AV → Prog AV) → Prog AV
  | [], k => k []
  | .tmp t :: r, k => resP ti T r fun l => k (getT T t :: l)
  | .cell a t :: r, k => .opt (ti t) fun i => match getT T a with
    | .ptr id off => .get id fun
      | .box cs => .opt (subL cs off i.ty.size) fun ds => resP ti T r fun l => k (pack i.ty ds :: l)
      | .row _ _ => .fail
    | _ => .fail

def argsT : Nat → List AV → Tm
  | _, [] => []
  | i, v :: r => (i, v) :: argsT (i + 1) r

def evB (cx : Ctx) (cal : FuncId → List AV → Prog AV) (keep : List Nat) (f : FuncId) (fn : Func) (args : List AV) : Prog AV :=
  match fn.body with
  | none => .fail
  | some c => bif leB args.length fn.ntmps then .ctr fun base => (evC cx cal ⟨f, fn.ntmps, keep, base⟩ 0 c (argsT 0 args)).bind fun e => match e.1 with
    | 0 | 1 => resP (tiL cx.tab) e.2 fn.results.toList fun
      | [v] => .ret v
      | vs => .ret (.tup vs)
    | _ => .fail
    else .fail

def Ctx.at (cx : Ctx) (n : Nat) : Ctx := { cx with spn := 1048576 ^ (n + 1) }

def evF (cx : Ctx) (keeps : FuncId → List Nat) : Nat → FuncId → List AV → Prog AV
  | 0, f, args => match cx.spec f with
    | some p => p args
    | none => .fail
  | n + 1, f, args => match cx.spec f with
    | some p => p args
    | none => match cx.inl f with
      | none => .fail
      | some fn => evB (cx.at n) (evF cx keeps n) (keeps f) f fn args
end
end Go.Proofs.YtmjbedjnojcmfaaDoor.Ex

namespace Go.Proofs.YtmjbedjnojcmfaaDoor.Ex
set_option linter.unusedSectionVars false
section
variable [RT]

abbrev Stb := Nat → Option (Array Value)

inductive DRep (S : Stb) : (t : Ty) → List Value → D t → Prop where
  | int (k : IntKind) (n : Int) : DRep S (.int k) [.int k n] n
  | bool (b : Bool) : DRep S .bool [.bool b] b
  | str (s : ByteArray) : DRep S .str [.string s] s
  | st (f : Ty) (cs : List Value) (d : D f) (h : DRep S f cs d) : DRep S (.st f) cs d
  | pair (a b : Ty) (cs cs' : List Value) (d : D a) (d' : D b) (h : DRep S a cs d) (h' : DRep S b cs' d') : DRep S (.pair a b) (cs ++ cs') (d, d')
  | slNil (e : Ty) (a : Option Addr) (cap : Nat) : DRep S (.sl e) [.slice a 0 cap] ([] : List (D e))
  | sl (e : Ty) (b o cap : Nat) (l : List (D e)) (cells : Array Value) (cf : Nat → List Value) (hS : S b = some cells) (hcap : l.length ≤ cap)
      (hsz : ∀ i, i < l.length → (cf i).length = (eTy e).size)
      (hcell : ∀ i j, i < l.length → j < (eTy e).size → cells[o + i * (eTy e).size + j]? = (cf i)[j]?)
      (hrep : ∀ i (h : i < l.length), DRep S (eTy e) (cf i) (eVal e l[i])) : DRep S (.sl e) [.slice (some ⟨b, o, none⟩) l.length cap] l

def ERep (S : Stb) (e : Ty) (cells : Array Value) (o : Nat) (l : List (D e)) : Prop :=
  ∀ i (h : i < l.length), ∃ cs : List Value, cs.length = (eTy e).size ∧ (∀ j, j < (eTy e).size → cells[o + i * (eTy e).size + j]? = cs[j]?) ∧ DRep S (eTy e) cs (eVal e l[i])

theorem DRep.ofERep {S : Stb} {e : Ty} {b o cap : Nat} {l : List (D e)} {cells : Array Value} (hS : S b = some cells) (hcap : l.length ≤ cap) (h : ERep S e cells o l) :
    DRep S (.sl e) [.slice (some ⟨b, o, none⟩) l.length cap] l := by
  refine DRep.sl e b o cap l cells (fun i => if h' : i < l.length then Classical.choose (h i h') else []) hS hcap ?_ ?_ ?_
  · intro i hi; simp only [hi, dif_pos]; exact (Classical.choose_spec (h i hi)).1
  · intro i j hi hj; simp only [hi, dif_pos]; exact (Classical.choose_spec (h i hi)).2.1 j hj
  · intro i hi; simp only [hi, dif_pos]; exact (Classical.choose_spec (h i hi)).2.2

theorem DRep.mono {S S' : Stb} (hS : ∀ b c, S b = some c → S' b = some c) {t : Ty} {cs : List Value} {d : D t} (h : DRep S t cs d) : DRep S' t cs d := by
  induction h with
  | int k n => exact .int k n
  | bool b => exact .bool b
  | str s => exact .str s
  | st f cs d _ ih => exact .st f cs d ih
  | pair a b cs cs' d d' _ _ ih ih' => exact .pair a b cs cs' d d' ih ih'
  | slNil e a cap => exact .slNil e a cap
  | sl e b o cap l cells cf hb hcap hsz hcell _ ih => exact .sl e b o cap l cells cf (hS _ _ hb) hcap hsz hcell ih

theorem ERep.mono {S S' : Stb} (hS : ∀ b c, S b = some c → S' b = some c) {e : Ty} {cells : Array Value} {o : Nat} {l : List (D e)} (h : ERep S e cells o l) : ERep S' e cells o l :=
  fun i hi => let ⟨cs, a, b, c⟩ := h i hi; ⟨cs, a, b, c.mono hS⟩

theorem DRep.len {S : Stb} {t : Ty} {cs : List Value} {d : D t} (h : DRep S t cs d) : cs.length = t.size := by
  induction h with
  | pair a b cs cs' d d' _ _ ih ih' => simp [Ty.size, ih, ih']
  | st f cs d _ ih => simpa [Ty.size] using ih
  | _ => rfl

def blkOf : Value → Option Nat
  | .pointer (some a) => some a.block
  | .slice (some a) _ (_ + 1) => some a.block
  | _ => none

mutual
inductive VRep (hdr : Nat → Value) (S : Stb) : AV → Value → Prop where
  | undef (v : Value) : VRep hdr S .undef v
  | int (k : IntKind) (n : Int) : VRep hdr S (.int k n) (.int k n)
  | bool (b : Bool) : VRep hdr S (.bool b) (.bool b)
  | str (s : ByteArray) : VRep hdr S (.str s) (.string s)
  | nil (a : Option Addr) : VRep hdr S .nil (.slice a 0 0)
  | sl (e : Ty) (l : List (D e)) (v : Value) (h : DRep S (.sl e) [v] l) : VRep hdr S (.sl e l) v
  | ptr (id off b : Nat) (h : hdr id = .pointer (some ⟨b, 0, none⟩)) : VRep hdr S (.ptr id off) (.pointer (some ⟨b, off, none⟩))
  | row (id : Nat) (a : Option Addr) (len cap : Nat) (h : hdr id = .slice a len cap) : VRep hdr S (.row id) (.slice a len cap)
  | eptr (id sz i off b len cap : Nat) (h : hdr id = .slice (some ⟨b, 0, none⟩) len cap) : VRep hdr S (.eptr id sz i off) (.pointer (some ⟨b, i * sz + off, none⟩))
  | sub (id sz lo hi : Nat) (a : Option Addr) (cap : Nat) (h : hi ≤ lo ∨ ∃ b len cap', hdr id = .slice (some ⟨b, 0, none⟩) len cap' ∧ hi ≤ len ∧ a = some ⟨b, lo * sz, none⟩) (hc : hi - lo ≤ cap) : VRep hdr S (.sub id sz lo hi) (.slice a (hi - lo) cap)
  | vsl (e : Ty) (id sz n b cap : Nat) (h : hdr id = .pointer (some ⟨b, 0, none⟩)) (hc : n ≤ cap) : VRep hdr S (.vsl e id sz n) (.slice (some ⟨b, 0, none⟩) n cap)
  | view (cs : List AV) (vs : List Value) (off b o : Nat) (cells : Array Value) (hS : S b = some cells) (hc : ∀ j, j < vs.length → cells[o + j]? = vs[j]?) (h : VReps hdr S cs vs) :
      VRep hdr S (.view cs off) (.pointer (some ⟨b, o + off, none⟩))
  | clo (f : FuncId) (first caps : List AV) (fs cs : List Value) (h : VReps hdr S first fs) (h' : VReps hdr S caps cs) : VRep hdr S (.clo f first caps) (.func (.func f) fs.toArray cs.toArray)
  | agg (cs : List AV) (vs : List Value) (h : VReps hdr S cs vs) : VRep hdr S (.agg cs) (.agg vs.toArray)
  | tup (cs : List AV) (vs : List Value) (h : VReps hdr S cs vs) : VRep hdr S (.tup cs) (.tuple vs.toArray)
inductive VReps (hdr : Nat → Value) (S : Stb) : List AV → List Value → Prop where
  | nil : VReps hdr S [] []
  | cons (a : AV) (v : Value) (aZs : List AV) (vs : List Value) (h : VRep hdr S a v) (h' : VReps hdr S aZs vs) : VReps hdr S (a :: aZs) (v :: vs)
end

theorem VReps.len {hdr : Nat → Value} {S : Stb} : ∀ {aZs : List AV} {vs : List Value}, VReps hdr S aZs vs → aZs.length = vs.length
  | _, _, .nil => rfl
  | _, _, .cons _ _ _ _ _ h' => by simp [h'.len]

theorem VReps.append {hdr : Nat → Value} {S : Stb} : ∀ {aZs : List AV} {vs : List Value} {bs : List AV} {us : List Value}, VReps hdr S aZs vs → VReps hdr S bs us → VReps hdr S (aZs ++ bs) (vs ++ us)
  | _, _, _, _, .nil, k => k
  | _, _, _, _, .cons a v aZs vs h h', k => .cons a v _ _ h (h'.append k)

theorem VReps.take {hdr : Nat → Value} {S : Stb} : ∀ {aZs : List AV} {vs : List Value} (n : Nat), VReps hdr S aZs vs → VReps hdr S (aZs.take n) (vs.take n)
  | _, _, 0, _ => by simp [VReps.nil]
  | _, _, n + 1, .nil => by simp [VReps.nil]
  | _, _, n + 1, .cons a v aZs vs h h' => by simpa using VReps.cons a v _ _ h (h'.take n)

theorem VReps.drop {hdr : Nat → Value} {S : Stb} : ∀ {aZs : List AV} {vs : List Value} (n : Nat), VReps hdr S aZs vs → VReps hdr S (aZs.drop n) (vs.drop n)
  | _, _, 0, h => by simpa using h
  | _, _, n + 1, .nil => by simp [VReps.nil]
  | _, _, n + 1, .cons a v aZs vs h h' => by simpa using h'.drop n

theorem VReps.get {hdr : Nat → Value} {S : Stb} : ∀ {aZs : List AV} {vs : List Value} (i : Nat) (a : AV), VReps hdr S aZs vs → aZs[i]? = some a → ∃ v, vs[i]? = some v ∧ VRep hdr S a v
  | _, _, i, _, .nil, e => by simp at e
  | _, _, 0, a, .cons _ v _ _ h h', e => by simp at e; subst e; exact ⟨v, by simp, h⟩
  | _, _, i + 1, a, .cons _ v _ _ h h', e => by simp at e; simpa using h'.get i a e

theorem VReps.split {hdr : Nat → Value} {S : Stb} : ∀ {aZs bs : List AV} {vs : List Value}, VReps hdr S (aZs ++ bs) vs → ∃ us ts, vs = us ++ ts ∧ VReps hdr S aZs us ∧ VReps hdr S bs ts
  | [], _, vs, h => ⟨[], vs, rfl, .nil, h⟩
  | a :: aZs, bs, _, .cons _ v _ vs h h' => let ⟨us, ts, e, k, k'⟩ := h'.split; ⟨v :: us, ts, by simp [e], .cons _ _ _ _ h k, k'⟩

mutual
theorem VRep.mono {hdr hdr' : Nat → Value} {S S' : Stb} (hS : ∀ b c, S b = some c → S' b = some c) : ∀ {a : AV} {v : Value}, VRep hdr S a v → (∀ n ∈ a.ids, hdr' n = hdr n) → VRep hdr' S' a v
  | _, _, .undef v, _ => .undef v
  | _, _, .int k n, _ => .int k n
  | _, _, .bool b, _ => .bool b
  | _, _, .str s, _ => .str s
  | _, _, .nil a, _ => .nil a
  | _, _, .sl e l v h, _ => .sl e l v (h.mono hS)
  | _, _, .ptr id off b h, k => .ptr id off b (by rw [k id (by simp [AV.ids])]; exact h)
  | _, _, .row id a len cap h, k => .row id a len cap (by rw [k id (by simp [AV.ids])]; exact h)
  | _, _, .eptr id sz i off b len cap h, k => .eptr id sz i off b len cap (by rw [k id (by simp [AV.ids])]; exact h)
  | _, _, .sub id sz lo hi a cap h hc, k => .sub id sz lo hi a cap (by rw [k id (by simp [AV.ids])]; exact h) hc
  | _, _, .vsl e id sz n b cap h hc, k => .vsl e id sz n b cap (by rw [k id (by simp [AV.ids])]; exact h) hc
  | _, _, .view cs vs off b o cells hb hc h, k => .view cs vs off b o cells (hS _ _ hb) hc (VReps.mono hS h (by simpa [AV.ids] using k))
  | _, _, .clo f first caps fs cs h h', k => .clo f first caps fs cs (VReps.mono hS h (fun n hn => k n (by simp [AV.ids, hn]))) (VReps.mono hS h' (fun n hn => k n (by simp [AV.ids, hn])))
  | _, _, .agg cs vs h, k => .agg cs vs (VReps.mono hS h (by simpa [AV.ids] using k))
  | _, _, .tup cs vs h, k => .tup cs vs (VReps.mono hS h (by simpa [AV.ids] using k))
theorem VReps.mono {hdr hdr' : Nat → Value} {S S' : Stb} (hS : ∀ b c, S b = some c → S' b = some c) : ∀ {aZs : List AV} {vs : List Value}, VReps hdr S aZs vs → (∀ n ∈ AV.idsL aZs, hdr' n = hdr n) → VReps hdr' S' aZs vs
  | _, _, .nil, _ => .nil
  | _, _, .cons a v aZs vs h h', k => .cons a v aZs vs (VRep.mono hS h (fun n hn => k n (by simp [AV.idsL, hn]))) (VReps.mono hS h' (fun n hn => k n (by simp [AV.idsL, hn])))
end

theorem DRep.expand {hdr : Nat → Value} {S : Stb} {t : Ty} {cs : List Value} {d : D t} (h : DRep S t cs d) : VReps hdr S (expand t d) cs := by
  induction h with
  | int k n => exact .cons _ _ _ _ (.int k n) .nil
  | bool b => exact .cons _ _ _ _ (.bool b) .nil
  | str s => exact .cons _ _ _ _ (.str s) .nil
  | st f cs d _ ih => exact ih
  | pair a b cs cs' d d' _ _ ih ih' => exact ih.append ih'
  | slNil e a cap => exact .cons _ _ _ _ (.sl e _ _ (.slNil e a cap)) .nil
  | sl e b o cap l cells cf hS hcap hsz hcell hrep _ => exact .cons _ _ _ _ (.sl e l _ (.sl e b o cap l cells cf hS hcap hsz hcell hrep)) .nil

theorem castL_eq {e e' : Ty} {l : List (D e)} {x : List (D e')} (h : castL e e' l = some x) : ∃ he : e = e', he ▸ l = x := by
  unfold castL at h
  split at h
  · rename_i he; simp at h; exact ⟨he, h⟩
  · simp at h

theorem take1_rep {hdr : Nat → Value} {S : Stb} : ∀ (t : Ty) (aZs : List AV) (vs : List Value) (d : D t) (r : List AV), VReps hdr S aZs vs → take1 t aZs = some (d, r) →
    ∃ us ts, vs = us ++ ts ∧ DRep S t us d ∧ VReps hdr S r ts := by
  intro t
  induction t with
  | int k =>
    intro aZs vs d r h e
    change tInt k aZs = some (d, r) at e
    unfold tInt at e
    split at e
    · split at e
      · rename_i hk; cases e; cases h with | cons a v aZs vs h h' => cases h; subst hk; exact ⟨[_], vs, rfl, .int _ _, h'⟩
      · cases e
    · cases e
  | bool =>
    intro aZs vs d r h e
    change tBool aZs = some (d, r) at e
    unfold tBool at e
    split at e
    · cases e; cases h with | cons a v aZs vs h h' => cases h; exact ⟨[_], vs, rfl, .bool _, h'⟩
    · cases e
  | str =>
    intro aZs vs d r h e
    change tStr aZs = some (d, r) at e
    unfold tStr at e
    split at e
    · cases e; cases h with | cons a v aZs vs h h' => cases h; exact ⟨[_], vs, rfl, .str _, h'⟩
    · cases e
  | sl e0 =>
    intro aZs vs d r h e
    have e : tSl e0 aZs = some ((show List (D e0) from d), r) := e
    unfold tSl at e
    split at e
    · obtain ⟨x, hx, e⟩ := Option.bind_eq_some_iff.mp e
      obtain ⟨rfl, rfl⟩ := castL_eq hx
      cases e
      cases h with | cons a v aZs vs h h' => cases h with | sl e1 l v h => exact ⟨[v], vs, rfl, h, h'⟩
    · cases e; cases h with | cons a v aZs vs h h' => cases h; exact ⟨[_], vs, rfl, .slNil _ _ _, h'⟩
    · cases e
  | mu n => intro aZs vs d r h e; change none = some (d, r) at e; cases e
  | st f ih =>
    intro aZs vs d r h e
    change take1 f aZs = some (d, r) at e
    obtain ⟨us, ts, e1, k, k'⟩ := ih aZs vs d r h e
    exact ⟨us, ts, e1, .st f us d k, k'⟩
  | pair a b iha ihb =>
    intro aZs vs d r h e
    have e : ((take1 a aZs).bind fun x => (take1 b x.2).bind fun y => some ((x.1, y.1), y.2)) = some ((show D a × D b from d), r) := e
    obtain ⟨⟨x, r1⟩, hx, e⟩ := Option.bind_eq_some_iff.mp e
    obtain ⟨⟨y, r2⟩, hy, e⟩ := Option.bind_eq_some_iff.mp e
    cases e
    obtain ⟨us, ts, rfl, k, k'⟩ := iha aZs vs x r1 h hx
    obtain ⟨us', ts', rfl, k2, k2'⟩ := ihb r1 ts y r2 k' hy
    exact ⟨us ++ us', ts', by simp, .pair a b us us' x y k k2, k2'⟩

theorem collapse_rep {hdr : Nat → Value} {S : Stb} {t : Ty} {aZs : List AV} {vs : List Value} {d : D t} (h : VReps hdr S aZs vs) (e : collapse t aZs = some d) : DRep S t vs d := by
  unfold collapse at e
  split at e
  · rename_i x hx
    simp at e; subst e
    obtain ⟨us, ts, rfl, k, k'⟩ := take1_rep t aZs vs _ _ h hx
    cases k'
    simpa using k
  · simp at e

inductive BReal (hdr : Nat → Value) (S : Stb) (w : World) (id : Nat) : Blk → Prop where
  | box (cs : List AV) (b : Nat) (vs : List Value) (et : TypeId) (hh : hdr id = .pointer (some ⟨b, 0, none⟩)) (hw : w.heap[b]? = some (.cells vs.toArray et (0, 0))) (hr : VReps hdr S cs vs) : BReal hdr S w id (.box cs)
  | rowNil (e : Ty) (a : Option Addr) (hh : hdr id = .slice a 0 0) : BReal hdr S w id (.row e [])
  | row (e : Ty) (l : List (D e)) (b cap : Nat) (vs : Array Value) (et : TypeId) (hh : hdr id = .slice (some ⟨b, 0, none⟩) l.length cap) (hc : 0 < cap) (hw : w.heap[b]? = some (.cells vs et (0, 0)))
      (hl : l.length ≤ cap) (hs : vs.size = cap * (eTy e).size) (hr : ERep S e vs 0 l) : BReal hdr S w id (.row e l)

structure HReal (hdr : Nat → Value) (S : Stb) (h : List (Nat × Blk)) (w : World) : Prop where
  blk : ∀ id b, findB h id = some b → BReal hdr S w id b
  sep : ∀ i j b b' n, i ≠ j → findB h i = some b → findB h j = some b' → blkOf (hdr i) = some n → blkOf (hdr j) ≠ some n
  stb : ∀ i b n, findB h i = some b → blkOf (hdr i) = some n → S n = none
  mem : ∀ n cs, S n = some cs → ∃ e f, w.heap[n]? = some (.cells cs e f)

def own (h : List (Nat × Blk)) (hdr : Nat → Value) (n : Nat) : Prop := ∃ id b, findB h id = some b ∧ blkOf (hdr id) = some n

structure Step (h : List (Nat × Blk)) (hdr : Nat → Value) (S : Stb) (w : World) (h' : List (Nat × Blk)) (hdr' : Nat → Value) (S' : Stb) (w' : World) : Prop where
  os : w'.os = w.os
  tape : w'.tape = w.tape
  output : w'.output = w.output
  size : w.heap.size ≤ w'.heap.size
  frame : ∀ n, n < w.heap.size → ¬ own h hdr n → w'.heap[n]? = w.heap[n]?
  own' : ∀ n, own h' hdr' n → own h hdr n ∨ w.heap.size ≤ n
  sle : ∀ n c, S n = some c → S' n = some c
  snew : ∀ n c, S' n = some c → S n = some c ∨ own h hdr n ∨ w.heap.size ≤ n

theorem Step.refl (h : List (Nat × Blk)) (hdr : Nat → Value) (S : Stb) (w : World) : Step h hdr S w h hdr S w :=
  ⟨rfl, rfl, rfl, Nat.le_refl _, fun _ _ _ => rfl, fun _ h => .inl h, fun _ _ h => h, fun _ _ h => .inl h⟩

theorem Step.trans {h h1 h2 : List (Nat × Blk)} {hdr hdr1 hdr2 : Nat → Value} {S S1 S2 : Stb} {w w1 w2 : World} (a : Step h hdr S w h1 hdr1 S1 w1) (b : Step h1 hdr1 S1 w1 h2 hdr2 S2 w2) : Step h hdr S w h2 hdr2 S2 w2 := {
  os := b.os.trans a.os
  tape := b.tape.trans a.tape
  output := b.output.trans a.output
  size := Nat.le_trans a.size b.size
  frame := fun n hn ho => (b.frame n (Nat.lt_of_lt_of_le hn a.size) (fun h => (a.own' n h).elim ho (fun h => absurd hn (Nat.not_lt.2 h)))).trans (a.frame n hn ho)
  own' := fun n h => (b.own' n h).elim (a.own' n) (fun h => .inr (Nat.le_trans a.size h))
  sle := fun n c h => b.sle n c (a.sle n c h)
  snew := fun n c h => (b.snew n c h).elim (a.snew n c) (fun h => h.elim (fun h => (a.own' n h).elim (fun h => .inr (.inl h)) (fun h => .inr (.inr h))) (fun h => .inr (.inr (Nat.le_trans a.size h)))) }
end
end Go.Proofs.YtmjbedjnojcmfaaDoor.Ex

namespace Go.Proofs.YtmjbedjnojcmfaaDoor.Ex
set_option linter.unusedSectionVars false
section
variable [RT]

def ex {α : Type} (p : Prog α) (tr : Bool) (h : Hp) (f : Foot) : Option (α × Hp × Foot) := run p tr h f fun a h f => some (a, h, f)

theorem run_ex {α : Type} (p : Prog α) : ∀ {R : Type} (tr : Bool) (h : Hp) (f : Foot) (K : α → Hp → Foot → Option R), run p tr h f K = (ex p tr h f).bind fun x => K x.1 x.2.1 x.2.2 := by
  unfold ex
  induction p with
  | ret a => intros; rfl
  | fail => intros; rfl
  | ite b p q ihp ihq => intro R tr h f K; simp only [run]; cases b <;> simp only [cond_true, cond_false] <;> first | exact ihp .. | exact ihq ..
  | opt x k ih => intro R tr h f K; simp only [run]; cases x <;> simp only [Option.bind_none, Option.bind_some] ; exact ih ..
  | alt x k l ihk ihl => intro R tr h f K; simp only [run]; cases x <;> simp only [Sum.elim_inl, Sum.elim_inr] <;> first | exact ihk .. | exact ihl ..
  | get id k ih => intro R tr h f K; simp only [run]; split <;> first | exact ih .. | rfl
  | put id b k ih => intro R tr h f K; simp only [run]; split <;> first | exact ih .. | rfl
  | new b k ih => intro R tr h f K; simp only [run]; exact ih ..
  | del id k ih => intro R tr h f K; simp only [run]; split <;> first | exact ih .. | rfl
  | ctr k ih => intro R tr h f K; simp only [run]; exact ih ..
  | seek n k ih => intro R tr h f K; simp only [run]; cases leB h.c n <;> simp only [cond_true, cond_false] <;> first | exact ih .. | rfl
  | trace p k ihp ihk =>
    intro R tr h f K
    simp only [run]
    rw [ihp]
    conv => rhs; rw [ihp]
    rw [Option.bind_assoc]
    congr 1
    funext x
    rw [ihk]
  | norm base keep T k ih => intro R tr h f K; simp only [run]; cases tr <;> simp only [cond_true, cond_false, Option.bind_none]; cases (nodupN (normOrder base keep T h.blks) && leB base h.c) <;> simp only [cond_true, cond_false] <;> first | exact ih .. | rfl
  | glob g k ih => intro R tr h f K; simp only [run]; cases tr <;> simp only [cond_true, cond_false, Option.bind_none]; cases g h <;> simp only [Option.bind_none, Option.bind_some]; exact ih ..

theorem run_bind {R : Type} {α : Type} (p : Prog α) : ∀ {β : Type} (q : α → Prog β) (tr : Bool) (h : Hp) (f : Foot) (K : β → Hp → Foot → Option R),
    run (p.bind q) tr h f K = run p tr h f fun a h f => run (q a) tr h f K := by
  induction p with
  | ret a => intros; rfl
  | fail => intros; rfl
  | ite b p q ihp ihq => intro β r tr h f K; simp only [Prog.bind, run, ihp, ihq]
  | opt x k ih => intro β r tr h f K; simp only [Prog.bind, run, ih]
  | alt x k l ihk ihl => intro β r tr h f K; simp only [Prog.bind, run, ihk, ihl]
  | get id k ih => intro β r tr h f K; simp only [Prog.bind, run, ih]
  | put id b k ih => intro β r tr h f K; simp only [Prog.bind, run, ih]
  | new b k ih => intro β r tr h f K; simp only [Prog.bind, run, ih]
  | del id k ih => intro β r tr h f K; simp only [Prog.bind, run, ih]
  | ctr k ih => intro β r tr h f K; simp only [Prog.bind, run, ih]
  | seek n k ih => intro β r tr h f K; simp only [Prog.bind, run, ih]
  | trace p k ihp ihk => intro β r tr h f K; simp only [Prog.bind, run, ihk]
  | norm base keep T k ih => intro β r tr h f K; simp only [Prog.bind, run, ih]
  | glob g k ih => intro β r tr h f K; simp only [Prog.bind, run, ih]

theorem ex_bind {α β : Type} (p : Prog α) (q : α → Prog β) (tr : Bool) (h : Hp) (f : Foot) :
    ex (p.bind q) tr h f = (ex p tr h f).bind fun x => ex (q x.1) tr x.2.1 x.2.2 := by
  unfold ex
  rw [run_bind, run_ex]
  rfl

theorem ex_bind_some {α β : Type} {p : Prog α} {q : α → Prog β} {tr : Bool} {h : Hp} {f : Foot} {r : β × Hp × Foot} (e : ex (p.bind q) tr h f = some r) :
    ∃ a h1 f1, ex p tr h f = some (a, h1, f1) ∧ ex (q a) tr h1 f1 = some r := by
  rw [ex_bind, Option.bind_eq_some_iff] at e
  obtain ⟨⟨a, h1, f1⟩, e1, e2⟩ := e
  exact ⟨a, h1, f1, e1, e2⟩

theorem nb_self (a : Nat) : Nat.beq a a = true := Nat.beq_refl a
theorem nb_ne {a b : Nat} (h : a ≠ b) : Nat.beq a b = false := by
  cases e : Nat.beq a b
  · rfl
  · exact absurd (Nat.eq_of_beq_eq_true e) h
theorem nb_iff {a b : Nat} : Nat.beq a b = true ↔ a = b := ⟨Nat.eq_of_beq_eq_true, fun h => h ▸ nb_self a⟩

theorem leB_iff {a b : Nat} : leB a b = true ↔ a ≤ b := by simp [leB]

theorem ex_mono {α : Type} (p : Prog α) : ∀ (h : Hp) (f : Foot) (r : α × Hp × Foot), ex p true h f = some r → h.c ≤ r.2.1.c := by
  unfold ex
  induction p with
  | ret a => intro h f r e; simp only [run] at e; cases e; exact Nat.le_refl _
  | fail => intro h f r e; cases e
  | ite b p q ihp ihq => intro h f r e; simp only [run] at e; cases b <;> simp only [cond_true, cond_false] at e <;> first | exact ihp _ _ _ e | exact ihq _ _ _ e
  | opt x k ih => intro h f r e; simp only [run] at e; cases x <;> simp only [Option.bind_none, Option.bind_some] at e; cases e; exact ih _ _ _ _ e
  | alt x k l ihk ihl => intro h f r e; simp only [run] at e; cases x <;> simp only [Sum.elim_inl, Sum.elim_inr] at e <;> first | exact ihk _ _ _ _ e | exact ihl _ _ _ _ e
  | get id k ih => intro h f r e; simp only [run] at e; split at e <;> first | exact ih _ _ _ _ e | cases e
  | put id b k ih => intro h f r e; simp only [run] at e; split at e <;> first | (have e' := ih _ _ _ e; exact e') | cases e
  | new b k ih => intro h f r e; simp only [run] at e; exact Nat.le_trans (Nat.le_succ _) (ih _ _ _ _ e)
  | del id k ih => intro h f r e; simp only [run] at e; split at e <;> first | (have e' := ih _ _ _ e; exact e') | cases e
  | ctr k ih => intro h f r e; simp only [run] at e; exact ih _ _ _ _ e
  | seek n k ih => intro h f r e; simp only [run] at e; cases hl : leB h.c n <;> simp only [hl, cond_true, cond_false] at e <;> first | cases e | exact Nat.le_trans (leB_iff.1 hl) (ih _ _ _ e)
  | trace p k ihp ihk =>
    intro h f r e
    simp only [run] at e
    rw [run_ex, Option.bind_eq_some_iff] at e
    obtain ⟨x, e1, e2⟩ := e
    exact Nat.le_trans (ihp _ _ _ e1) (ihk _ _ _ _ _ e2)
  | norm base keep T k ih => intro h f r e; simp only [run] at e; cases e
  | glob g k ih => intro h f r e; simp only [run] at e; cases e

theorem findB_cons (k : Nat) (b : Blk) (l : List (Nat × Blk)) (id : Nat) : findB ((k, b) :: l) id = if k = id then some b else findB l id := by
  show (bif Nat.beq k id then some b else findB l id) = _
  by_cases h : k = id
  · subst h; simp
  · simp [nb_ne h, h]

theorem findB_setB (l : List (Nat × Blk)) (i : Nat) (b b' : Blk) (hi : findB l i = some b') (j : Nat) : findB (setB l i b) j = if j = i then some b else findB l j := by
  induction l with
  | nil => cases hi
  | cons x l ih =>
    obtain ⟨k, c⟩ := x
    simp only [findB, setB] at *
    by_cases hk : k = i
    · subst hk
      simp only [nb_self, cond_true, findB] at *
      by_cases hj : j = k
      · subst hj; simp
      · simp [nb_ne (Ne.symm hj), hj]
    · simp only [nb_ne hk, cond_false, findB] at *
      by_cases hj : k = j
      · subst hj; simp [hk]
      · simp only [nb_ne hj, cond_false]
        exact ih hi

theorem findB_delB (l : List (Nat × Blk)) (i j : Nat) : findB (delB l i) j = if j = i then none else findB l j := by
  induction l with
  | nil => simp [findB, delB]
  | cons x l ih =>
    obtain ⟨k, c⟩ := x
    simp only [findB, delB]
    by_cases hk : k = i
    · subst hk
      simp only [nb_self, cond_true, ih]
      by_cases hj : j = k
      · simp [hj]
      · simp [nb_ne (Ne.symm hj), hj]
    · simp only [nb_ne hk, cond_false, findB, ih]
      by_cases hj : k = j
      · subst hj; simp [hk]
      · simp [nb_ne hj]
end
end Go.Proofs.YtmjbedjnojcmfaaDoor.Ex

namespace Go.Proofs.YtmjbedjnojcmfaaDoor.Ex
set_option linter.unusedSectionVars false
section
variable [RT]

def Ment (ok : Nat → Prop) (h : List (Nat × Blk)) : Prop := ∀ id b, findB h id = some b → ok id ∧ ∀ n ∈ b.ids, ok n

def Out (tr : Bool) (c c' : Nat) (id : Nat) : Prop := id < c ∨ (tr = true ∧ c' ≤ id)

abbrev okn (ok : Nat → Prop) (c c' : Nat) : Nat → Prop := fun id => ok id ∨ (c ≤ id ∧ id < c')

structure Post (tr : Bool) (ok : Nat → Prop) (hdr : Nat → Value) (S : Stb) (h : Hp) (w : World) (hdr' : Nat → Value) (S' : Stb) (h' : Hp) (w' : World) : Prop where
  mono : h.c ≤ h'.c
  agree : ∀ id, Out tr h.c h'.c id → hdr' id = hdr id
  real : HReal hdr' S' h'.blks w'
  step : Step h.blks hdr S w h'.blks hdr' S' w'
  ment : Ment (okn ok h.c h'.c) h'.blks

theorem Ment.mono {ok ok' : Nat → Prop} {h : List (Nat × Blk)} (hm : Ment ok h) (k : ∀ n, ok n → ok' n) : Ment ok' h :=
  fun id b hf => ⟨k _ (hm id b hf).1, fun n hn => k _ ((hm id b hf).2 n hn)⟩

theorem Post.refl {tr : Bool} {ok : Nat → Prop} {hdr : Nat → Value} {S : Stb} {h : Hp} {w : World} (hr : HReal hdr S h.blks w) (hm : Ment ok h.blks) : Post tr ok hdr S h w hdr S h w :=
  ⟨Nat.le_refl _, fun _ _ => rfl, hr, Step.refl _ _ _ _, hm.mono fun _ h => .inl h⟩

theorem okn_trans {ok : Nat → Prop} {a b c : Nat} (h1 : a ≤ b) (h2 : b ≤ c) (n : Nat) : okn (okn ok a b) b c n → okn ok a c n := by
  rintro ((h | h) | h)
  · exact .inl h
  · exact .inr ⟨h.1, Nat.lt_of_lt_of_le h.2 h2⟩
  · exact .inr ⟨Nat.le_trans h1 h.1, h.2⟩

theorem Post.trans {tr : Bool} {ok : Nat → Prop} {hdr hdr1 hdr2 : Nat → Value} {S S1 S2 : Stb} {h h1 h2 : Hp} {w w1 w2 : World}
    (a : Post tr ok hdr S h w hdr1 S1 h1 w1) (b : Post tr (okn ok h.c h1.c) hdr1 S1 h1 w1 hdr2 S2 h2 w2) : Post tr ok hdr S h w hdr2 S2 h2 w2 := {
  mono := Nat.le_trans a.mono b.mono
  agree := fun id ho => by
    rcases ho with ho | ⟨ht, ho⟩
    · rw [b.agree id (.inl (Nat.lt_of_lt_of_le ho a.mono)), a.agree id (.inl ho)]
    · rw [b.agree id (.inr ⟨ht, ho⟩), a.agree id (.inr ⟨ht, Nat.le_trans b.mono ho⟩)]
  real := b.real
  step := a.step.trans b.step
  ment := b.ment.mono (okn_trans a.mono b.mono) }

theorem Post.vrep {tr : Bool} {ok : Nat → Prop} {hdr hdr' : Nat → Value} {S S' : Stb} {h h' : Hp} {w w' : World} (p : Post tr ok hdr S h w hdr' S' h' w')
    {a : AV} {v : Value} (hv : VRep hdr S a v) (ha : ∀ n ∈ a.ids, ok n) (hO : ∀ id, ok id → Out tr h.c h'.c id) : VRep hdr' S' a v :=
  hv.mono p.step.sle fun n hn => p.agree n (hO n (ha n hn))

theorem BReal.congr {hdr hdr' : Nat → Value} {S S' : Stb} {w w' : World} {id : Nat} {b : Blk} (h : BReal hdr S w id b) (hS : ∀ b c, S b = some c → S' b = some c) (hh : hdr' id = hdr id)
    (hi : ∀ n ∈ b.ids, hdr' n = hdr n) (hw : ∀ n, blkOf (hdr id) = some n → w'.heap[n]? = w.heap[n]?) : BReal hdr' S' w' id b := by
  cases h with
  | box cs b vs et h1 h2 h3 => exact .box cs b vs et (hh.trans h1) ((hw b (by rw [h1]; rfl)).trans h2) (h3.mono hS hi)
  | rowNil e a h1 => exact .rowNil e a (hh.trans h1)
  | row e l b cap vs et h1 hc h2 hl hs hr =>
    refine .row e l b cap vs et (hh.trans h1) hc ((hw b ?_).trans h2) hl hs (hr.mono hS)
    rw [h1]
    cases cap with
    | zero => omega
    | succ n => rfl

theorem BReal.lt {hdr : Nat → Value} {S : Stb} {w : World} {id : Nat} {b : Blk} (h : BReal hdr S w id b) {n : Nat} (hn : blkOf (hdr id) = some n) : n < w.heap.size := by
  cases h with
  | box cs b vs et h1 h2 h3 => rw [h1] at hn; cases hn; exact (Array.getElem?_eq_some_iff.1 h2).1
  | rowNil e a h1 => rw [h1] at hn; cases a <;> cases hn
  | row e l b cap vs et h1 hc h2 hl hs hr =>
    rw [h1] at hn
    cases cap with
    | zero => omega
    | succ n => cases hn; exact (Array.getElem?_eq_some_iff.1 h2).1

theorem HReal.stb_lt {hdr : Nat → Value} {S : Stb} {h : List (Nat × Blk)} {w : World} (hr : HReal hdr S h w) {n : Nat} {c : Array Value} (ho : S n = some c) : n < w.heap.size := by
  obtain ⟨e, f, hb⟩ := hr.mem n c ho
  exact (Array.getElem?_eq_some_iff.1 hb).1

def hdrN (hdr : Nat → Value) (c : Nat) (v : Value) (id : Nat) : Value := if id = c then v else hdr id

theorem hdrN_same (hdr : Nat → Value) (c : Nat) (v : Value) : hdrN hdr c v c = v := if_pos rfl
theorem hdrN_ne (hdr : Nat → Value) (c : Nat) (v : Value) {id : Nat} (h : id ≠ c) : hdrN hdr c v id = hdr id := if_neg h

theorem post_new' {tr : Bool} {ok : Nat → Prop} {hdr : Nat → Value} {S : Stb} {h : Hp} {w : World} (hr : HReal hdr S h.blks w) (hm : Ment ok h.blks) (hO : ∀ id, ok id → Out tr h.c (h.c + 1) id)
    (B : Blk) (hB : ∀ n ∈ B.ids, ok n) (w' : World) (hos : w'.os = w.os) (htape : w'.tape = w.tape) (hout : w'.output = w.output) (hsize : w.heap.size ≤ w'.heap.size)
    (hold : ∀ n, n < w.heap.size → w'.heap[n]? = w.heap[n]?) (v : Value) (hv : blkOf v = none ∨ blkOf v = some w.heap.size)
    (hb : ∀ hdr', (∀ id, ok id → hdr' id = hdr id) → hdr' h.c = v → BReal hdr' S w' h.c B) :
    Post tr ok hdr S h w (hdrN hdr h.c v) S ⟨(h.c, B) :: h.blks, h.c + 1⟩ w' := by
  have hne : ∀ id, ok id → id ≠ h.c := fun id hi => by rcases hO id hi with h | h <;> omega
  have hag : ∀ id, ok id → hdrN hdr h.c v id = hdr id := fun id hi => hdrN_ne _ _ _ (hne id hi)
  have hnew : hdrN hdr h.c v h.c = v := hdrN_same _ _ _
  have hfind : ∀ id b, findB ((h.c, B) :: h.blks) id = some b → (id = h.c ∧ b = B) ∨ (id ≠ h.c ∧ findB h.blks id = some b) := fun id b hf => by
    rw [findB_cons] at hf
    by_cases e : h.c = id
    · rw [if_pos e] at hf; cases hf; exact .inl ⟨e.symm, rfl⟩
    · rw [if_neg e] at hf; exact .inr ⟨Ne.symm e, hf⟩
  have hv' : ∀ n, blkOf v = some n → n = w.heap.size := fun n hn => by
    rcases hv with k | k
    · rw [k] at hn; cases hn
    · rw [k] at hn; cases hn; rfl
  refine ⟨Nat.le_succ _, fun id ho => ?_, ⟨fun id b hf => ?_, fun i j b b' n hij hf hg hi hj => ?_, fun i b n hf hi => ?_, fun n cs hn => ?_⟩, ⟨hos, htape, hout, hsize, fun n hn _ => hold n hn, fun n ho => ?_, fun _ _ k => k, fun _ _ k => .inl k⟩, fun id b hf => ?_⟩
  · have : id ≠ h.c := by
      rcases ho with k | ⟨_, k⟩
      · omega
      · change h.c + 1 ≤ id at k; omega
    exact hdrN_ne _ _ _ this
  · rcases hfind id b hf with ⟨rfl, rfl⟩ | ⟨_, hf'⟩
    · exact hb _ hag hnew
    · exact (hr.blk id b hf').congr (fun _ _ k => k) (hag id (hm id b hf').1) (fun n hn => hag n ((hm id b hf').2 n hn)) fun n hn => hold n ((hr.blk id b hf').lt hn)
  · rcases hfind i b hf with ⟨rfl, rfl⟩ | ⟨hi0, hf'⟩ <;> rcases hfind j b' hg with ⟨rfl, rfl⟩ | ⟨hj0, hg'⟩
    · exact hij rfl
    · rw [hnew] at hi
      rw [hag j (hm j b' hg').1] at hj
      have := (hr.blk j b' hg').lt hj
      have := hv' n hi
      omega
    · rw [hnew] at hj
      rw [hag i (hm i b hf').1] at hi
      have := (hr.blk i b hf').lt hi
      have := hv' n hj
      omega
    · rw [hag i (hm i b hf').1] at hi
      rw [hag j (hm j b' hg').1] at hj
      exact hr.sep i j b b' n hij hf' hg' hi hj
  · rcases hfind i b hf with ⟨rfl, rfl⟩ | ⟨hi0, hf'⟩
    · rw [hnew] at hi
      have e := hv' n hi
      cases hs : S n with
      | none => rfl
      | some c => have := hr.stb_lt hs; omega
    · rw [hag i (hm i b hf').1] at hi
      exact hr.stb i b n hf' hi
  · obtain ⟨e, f, k⟩ := hr.mem n cs hn
    exact ⟨e, f, (hold n (hr.stb_lt hn)).trans k⟩
  · obtain ⟨id, b, hf, hbo⟩ := ho
    rcases hfind id b hf with ⟨rfl, rfl⟩ | ⟨_, hf'⟩
    · rw [hnew] at hbo
      exact .inr (Nat.le_of_eq (hv' n hbo).symm)
    · rw [hag id (hm id b hf').1] at hbo
      exact .inl ⟨id, b, hf', hbo⟩
  · rcases hfind id b hf with ⟨rfl, rfl⟩ | ⟨_, hf'⟩
    · exact ⟨.inr ⟨Nat.le_refl _, Nat.lt_succ_self _⟩, fun n hn => .inl (hB n hn)⟩
    · exact ⟨.inl (hm id b hf').1, fun n hn => .inl ((hm id b hf').2 n hn)⟩

theorem heap_alloc_lt (w : World) (o : Obj) (n : Nat) (hn : n < w.heap.size) : (w.alloc o).heap[n]? = w.heap[n]? := by
  show (w.heap.push o)[n]? = _
  rw [Array.getElem?_push, if_neg (by omega)]

theorem post_new {tr : Bool} {ok : Nat → Prop} {hdr : Nat → Value} {S : Stb} {h : Hp} {w : World} (hr : HReal hdr S h.blks w) (hm : Ment ok h.blks) (hO : ∀ id, ok id → Out tr h.c (h.c + 1) id)
    (B : Blk) (hB : ∀ n ∈ B.ids, ok n) (o : Obj) (v : Value) (hv : blkOf v = none ∨ blkOf v = some w.heap.size)
    (hb : ∀ hdr', (∀ id, ok id → hdr' id = hdr id) → hdr' h.c = v → BReal hdr' S (w.alloc o) h.c B) :
    Post tr ok hdr S h w (hdrN hdr h.c v) S ⟨(h.c, B) :: h.blks, h.c + 1⟩ (w.alloc o) :=
  post_new' hr hm hO B hB (w.alloc o) rfl rfl rfl (by simp) (heap_alloc_lt w o) v hv hb

theorem post_rehead {tr : Bool} {ok : Nat → Prop} {hdr : Nat → Value} {S : Stb} {h : Hp} {w : World} (hr : HReal hdr S h.blks w) (hm : Ment ok h.blks) (hO : ∀ id, ok id → Out tr h.c (h.c + 1) id)
    (id : Nat) (B B' : Blk) (hf : findB h.blks id = some B') (hB : ∀ n ∈ B.ids, ok n) (w' : World) (b : Nat) (v : Value) (hb : blkOf (hdr id) = some b) (hv : blkOf v = some b)
    (hos : w'.os = w.os) (htape : w'.tape = w.tape) (hout : w'.output = w.output) (hsize : w'.heap.size = w.heap.size) (hother : ∀ n, n ≠ b → w'.heap[n]? = w.heap[n]?)
    (hreal : ∀ hdr', (∀ id, ok id → hdr' id = hdr id) → hdr' h.c = v → BReal hdr' S w' h.c B) :
    Post tr ok hdr S h w (hdrN hdr h.c v) S ⟨(h.c, B) :: delB h.blks id, h.c + 1⟩ w' := by
  have hne : ∀ id, ok id → id ≠ h.c := fun id hi => by rcases hO id hi with h | h <;> omega
  have hag : ∀ id, ok id → hdrN hdr h.c v id = hdr id := fun id hi => hdrN_ne _ _ _ (hne id hi)
  have hnew : hdrN hdr h.c v h.c = v := hdrN_same _ _ _
  have hfind : ∀ j c, findB ((h.c, B) :: delB h.blks id) j = some c → (j = h.c ∧ c = B) ∨ (j ≠ h.c ∧ j ≠ id ∧ findB h.blks j = some c) := fun j c k => by
    rw [findB_cons] at k
    by_cases e : h.c = j
    · rw [if_pos e] at k; cases k; exact .inl ⟨e.symm, rfl⟩
    · rw [if_neg e, findB_delB] at k
      by_cases e2 : j = id
      · rw [if_pos e2] at k; cases k
      · rw [if_neg e2] at k; exact .inr ⟨Ne.symm e, e2, k⟩
  refine ⟨Nat.le_succ _, fun j ho => ?_, ⟨fun j c k => ?_, fun i j c c' n hij ki kj hi hj => ?_, fun i c n ki hi => ?_, fun n cs hn => ?_⟩, ⟨hos, htape, hout, by omega, fun n _ ho => ?_, fun n ho => ?_, fun _ _ k => k, fun _ _ k => .inl k⟩, fun j c k => ?_⟩
  · have : j ≠ h.c := by
      rcases ho with k | ⟨_, k⟩
      · omega
      · change h.c + 1 ≤ j at k; omega
    exact hdrN_ne _ _ _ this
  · rcases hfind j c k with ⟨rfl, rfl⟩ | ⟨_, hj, k'⟩
    · exact hreal _ hag hnew
    · exact (hr.blk j c k').congr (fun _ _ k => k) (hag j (hm j c k').1) (fun n hn => hag n ((hm j c k').2 n hn)) fun n hn => hother n fun e => hr.sep j id c B' n hj k' hf hn (by rw [hb, e])
  · rcases hfind i c ki with ⟨rfl, rfl⟩ | ⟨_, hi0, ki'⟩ <;> rcases hfind j c' kj with ⟨rfl, rfl⟩ | ⟨_, hj0, kj'⟩
    · exact hij rfl
    · rw [hnew, hv] at hi
      cases hi
      rw [hag j (hm j c' kj').1] at hj
      exact hr.sep j id c' B' b hj0 kj' hf hj hb
    · rw [hnew, hv] at hj
      cases hj
      rw [hag i (hm i c ki').1] at hi
      exact hr.sep i id c B' b hi0 ki' hf hi hb
    · rw [hag i (hm i c ki').1] at hi
      rw [hag j (hm j c' kj').1] at hj
      exact hr.sep i j c c' n hij ki' kj' hi hj
  · rcases hfind i c ki with ⟨rfl, rfl⟩ | ⟨_, _, ki'⟩
    · rw [hnew, hv] at hi; cases hi; exact hr.stb id B' b hf hb
    · rw [hag i (hm i c ki').1] at hi; exact hr.stb i c n ki' hi
  · obtain ⟨e, f, k⟩ := hr.mem n cs hn
    refine ⟨e, f, (hother n fun e => ?_).trans k⟩
    subst e
    rw [hr.stb id B' n hf hb] at hn
    cases hn
  · exact hother n fun e => ho ⟨id, B', hf, by rw [hb, e]⟩
  · obtain ⟨j, c, k, hj⟩ := ho
    rcases hfind j c k with ⟨rfl, rfl⟩ | ⟨_, _, k'⟩
    · rw [hnew, hv] at hj; cases hj; exact .inl ⟨id, B', hf, hb⟩
    · rw [hag j (hm j c k').1] at hj; exact .inl ⟨j, c, k', hj⟩
  · rcases hfind j c k with ⟨rfl, rfl⟩ | ⟨_, _, k'⟩
    · exact ⟨.inr ⟨Nat.le_refl _, Nat.lt_succ_self _⟩, fun n hn => .inl (hB n hn)⟩
    · exact ⟨.inl (hm j c k').1, fun n hn => .inl ((hm j c k').2 n hn)⟩

theorem HReal.drew {hdr : Nat → Value} {S : Stb} {h : List (Nat × Blk)} {w : World} (hr : HReal hdr S h w) : HReal hdr S h w.drew :=
  ⟨fun id b hf => (hr.blk id b hf).congr (fun _ _ k => k) rfl (fun _ _ => rfl) fun _ _ => rfl, hr.sep, hr.stb, hr.mem⟩

theorem post_put {tr : Bool} {ok : Nat → Prop} {hdr : Nat → Value} {S : Stb} {h : Hp} {w : World} (hr : HReal hdr S h.blks w) (hm : Ment ok h.blks)
    (id : Nat) (B B' : Blk) (hf : findB h.blks id = some B') (hB : ∀ n ∈ B.ids, ok n) (w' : World) (b : Nat) (hb : blkOf (hdr id) = some b)
    (hos : w'.os = w.os) (htape : w'.tape = w.tape) (hout : w'.output = w.output) (hsize : w'.heap.size = w.heap.size) (hother : ∀ n, n ≠ b → w'.heap[n]? = w.heap[n]?)
    (hreal : BReal hdr S w' id B) : Post tr ok hdr S h w hdr S ⟨setB h.blks id B, h.c⟩ w' := by
  have hfind : ∀ j c, findB (setB h.blks id B) j = some c → (j = id ∧ c = B) ∨ (j ≠ id ∧ findB h.blks j = some c) := fun j c k => by
    rw [findB_setB _ _ _ _ hf] at k
    split at k
    · rename_i e; cases k; exact .inl ⟨e, rfl⟩
    · rename_i e; exact .inr ⟨e, k⟩
  have hf' : ∀ j c, findB (setB h.blks id B) j = some c → ∃ c', findB h.blks j = some c' := fun j c k => by
    rcases hfind j c k with ⟨rfl, _⟩ | ⟨_, k⟩
    · exact ⟨B', hf⟩
    · exact ⟨c, k⟩
  refine ⟨Nat.le_refl _, fun _ _ => rfl, ⟨fun j c k => ?_, fun i j c c' n hij ki kj hi hj => ?_, fun i c n ki hi => ?_, fun n cs hn => ?_⟩, ⟨hos, htape, hout, by omega, fun n _ ho => ?_, fun n ho => ?_, fun _ _ k => k, fun _ _ k => .inl k⟩, fun j c k => ?_⟩
  · rcases hfind j c k with ⟨rfl, rfl⟩ | ⟨hne, k⟩
    · exact hreal
    · exact (hr.blk j c k).congr (fun _ _ k => k) rfl (fun _ _ => rfl) fun n hn => hother n fun e => hr.sep j id c B' n hne k hf hn (by rw [hb, e])
  · obtain ⟨d, ki⟩ := hf' i c ki
    obtain ⟨d', kj⟩ := hf' j c' kj
    exact hr.sep i j d d' n hij ki kj hi hj
  · obtain ⟨d, ki⟩ := hf' i c ki
    exact hr.stb i d n ki hi
  · obtain ⟨e, f, k⟩ := hr.mem n cs hn
    refine ⟨e, f, (hother n fun e => ?_).trans k⟩
    subst e
    rw [hr.stb id B' n hf hb] at hn
    cases hn
  · exact hother n fun e => ho ⟨id, B', hf, by rw [hb, e]⟩
  · obtain ⟨j, c, k, hj⟩ := ho
    obtain ⟨d, k⟩ := hf' j c k
    exact .inl ⟨j, d, k, hj⟩
  · rcases hfind j c k with ⟨rfl, rfl⟩ | ⟨hne, k⟩
    · exact ⟨.inl (hm j B' hf).1, fun n hn => .inl (hB n hn)⟩
    · exact ⟨.inl (hm j c k).1, fun n hn => .inl ((hm j c k).2 n hn)⟩

theorem post_del {tr : Bool} {ok : Nat → Prop} {hdr : Nat → Value} {S : Stb} {h : Hp} {w : World} (hr : HReal hdr S h.blks w) (hm : Ment ok h.blks)
    (id : Nat) (B : Blk) (hf : findB h.blks id = some B) (S' : Stb) (hS : ∀ n c, S n = some c → S' n = some c)
    (hS' : ∀ n c, S' n = some c → S n = some c ∨ (blkOf (hdr id) = some n ∧ ∃ e f, w.heap[n]? = some (.cells c e f))) : Post tr ok hdr S h w hdr S' ⟨delB h.blks id, h.c⟩ w := by
  have hfind : ∀ j c, findB (delB h.blks id) j = some c → j ≠ id ∧ findB h.blks j = some c := fun j c k => by
    rw [findB_delB] at k
    split at k
    · cases k
    · rename_i e; exact ⟨e, k⟩
  refine ⟨Nat.le_refl _, fun _ _ => rfl, ⟨fun j c k => ?_, fun i j c c' n hij ki kj hi hj => ?_, fun i c n ki hi => ?_, fun n cs hn => ?_⟩, ⟨rfl, rfl, rfl, Nat.le_refl _, fun _ _ _ => rfl, fun n ho => ?_, hS, fun n c k => ?_⟩, fun j c k => ?_⟩
  · exact (hr.blk j c (hfind j c k).2).congr hS rfl (fun _ _ => rfl) fun _ _ => rfl
  · exact hr.sep i j c c' n hij (hfind i c ki).2 (hfind j c' kj).2 hi hj
  · obtain ⟨hne, ki⟩ := hfind i c ki
    have h0 := hr.stb i c n ki hi
    cases hs : S' n with
    | none => rfl
    | some d =>
      rcases hS' n d hs with k | ⟨k, _⟩
      · rw [h0] at k; cases k
      · exact absurd k (hr.sep i id c B n hne ki hf hi)
  · rcases hS' n cs hn with k | ⟨_, k⟩
    · exact hr.mem n cs k
    · exact k
  · obtain ⟨j, c, k, hj⟩ := ho
    exact .inl ⟨j, c, (hfind j c k).2, hj⟩
  · rcases hS' n c k with k | ⟨k, _⟩
    · exact .inl k
    · exact .inr (.inl ⟨id, B, hf, k⟩)
  · have k := (hfind j c k).2
    exact ⟨.inl (hm j c k).1, fun n hn => .inl ((hm j c k).2 n hn)⟩

theorem add_mk (b off i : Nat) : (⟨b, off, none⟩ : Addr).add i = ⟨b, off + i, none⟩ := by
  unfold Addr.add
  split
  · simp_all
  · rfl

theorem cell_in {w : World} {b : Nat} {cs : Array Value} {et : TypeId} {fr : Nat × Nat} (hw : w.heap[b]? = some (.cells cs et fr)) (off : Nat) : w.cell? ⟨b, off, none⟩ = cs[off]? := by
  simp [World.cell?, hw]

def oneV : Value → Bool
  | .agg _ => false
  | .tuple _ => false
  | _ => true

theorem run_loadCells_in (P : Program) {w : World} {b : Nat} {cs : Array Value} {et : TypeId} {fr : Nat × Nat} (hw : w.heap[b]? = some (.cells cs et fr)) (off : Nat) (vs : List Value)
    (hv : ∀ j, j < vs.length → cs[off + j]? = vs[j]?) : (loadCells (⟨b, off, none⟩ : Addr) vs.length).run P w = .ok vs.toArray w := by
  refine run_loadCells_list w (⟨b, off, none⟩ : Addr) vs fun j v hj => ?_
  have hlt : j < vs.length := (List.getElem?_eq_some_iff.1 hj).1
  rw [add_mk, cell_in hw, hv j hlt, hj]

theorem run_storeCells_in (P : Program) (b : Nat) (et : TypeId) : ∀ (vs : List Value) (w : World) (cs : List Value) (off i : Nat), w.heap[b]? = some (.cells cs.toArray et (0, 0)) → off + i + vs.length ≤ cs.length →
    (∀ v ∈ vs, oneV v = true) →
    ∃ w', (storeCells (⟨b, off, none⟩ : Addr) vs i).run P w = .ok () w' ∧ w'.os = w.os ∧ w'.tape = w.tape ∧ w'.output = w.output ∧ w'.heap.size = w.heap.size ∧ (∀ n, n ≠ b → w'.heap[n]? = w.heap[n]?) ∧
      w'.heap[b]? = some (.cells (cs.take (off + i) ++ vs ++ cs.drop (off + i + vs.length)).toArray et (0, 0))
  | [], w, cs, off, i, hw, _, _ => ⟨w, rfl, rfl, rfl, rfl, rfl, fun _ _ => rfl, by simpa using hw⟩
  | v :: r, w, cs, off, i, hw, hl, ho => by
    simp only [List.length_cons] at hl
    have hc : w.cell? ⟨b, off + i, none⟩ = some (cs[off + i]'(by omega)) := by rw [cell_in hw]; simp
    have hfz : w.frozen? ⟨b, off + i, none⟩ = false := by simp [World.frozen?, hw]
    have hst : (store ⟨b, off + i, none⟩ v).run P w = .ok () (w.setCell ⟨b, off + i, none⟩ v) := by
      have h1 := ho v (by simp)
      unfold store
      cases v <;> first | (cases h1; done) | simp [Sem.run, hc, hfz]
    have hw1 : (w.setCell ⟨b, off + i, none⟩ v).heap[b]? = some (.cells (cs.set (off + i) v).toArray et (0, 0)) := by
      simp only [World.setCell, Array.getElem?_modify, if_pos, hw, Option.map_some]
      simp
    obtain ⟨w', e, a1, a2, a3, a4, a5, a6⟩ := run_storeCells_in P b et r (w.setCell ⟨b, off + i, none⟩ v) (cs.set (off + i) v) off (i + 1) hw1 (by simp; omega) (fun u hu => ho u (by simp [hu]))
    refine ⟨w', ?_, a1, a2, a3, by rw [a4]; simp, fun n hn => ?_, ?_⟩
    · rw [storeCells, add_mk]
      simp only [Sem.run_bind, hst, Result.andThen_ok, e]
    · rw [a5 n hn]
      simp only [World.setCell, Array.getElem?_modify]
      rw [if_neg (fun e => hn e.symm)]
    · rw [a6]
      congr 3
      have hlt : off + i < cs.length := by omega
      rw [show off + (i + 1) = (off + i) + 1 by omega, show off + i + (v :: r).length = off + i + 1 + r.length by simp; omega]
      have e1 : (cs.set (off + i) v).take (off + i + 1) = cs.take (off + i) ++ [v] := by
        rw [List.take_succ_eq_append_getElem (by simpa using hlt), List.take_set_of_le (Nat.le_refl _)]
        simp
      have e2 : (cs.set (off + i) v).drop (off + i + 1 + r.length) = cs.drop (off + i + 1 + r.length) := by
        rw [List.drop_set_of_lt (by omega)]
      rw [e1, e2]
      simp
end
end Go.Proofs.YtmjbedjnojcmfaaDoor.Ex

namespace Go.Proofs.YtmjbedjnojcmfaaDoor.Ex
set_option linter.unusedSectionVars false
section
variable [RT]

theorem ex_ret {α : Type} {a : α} {tr : Bool} {h : Hp} {f : Foot} {r : α × Hp × Foot} (e : ex (.ret a) tr h f = some r) : r = (a, h, f) := by
  simp only [ex, run, Option.some.injEq] at e; exact e.symm
theorem ex_fail {α : Type} {tr : Bool} {h : Hp} {f : Foot} {r : α × Hp × Foot} (e : ex .fail tr h f = some r) : False := by cases e
theorem ex_opt {α β : Type} {x : Option β} {k : β → Prog α} {tr : Bool} {h : Hp} {f : Foot} {r : α × Hp × Foot} (e : ex (.opt x k) tr h f = some r) : ∃ b, x = some b ∧ ex (k b) tr h f = some r := by
  simp only [ex, run] at e
  exact Option.bind_eq_some_iff.1 e
theorem ex_ite {α : Type} {b : Bool} {p q : Prog α} {tr : Bool} {h : Hp} {f : Foot} {r : α × Hp × Foot} (e : ex (.ite b p q) tr h f = some r) :
    (b = true ∧ ex p tr h f = some r) ∨ (b = false ∧ ex q tr h f = some r) := by
  simp only [ex, run] at e
  cases b
  · exact .inr ⟨rfl, e⟩
  · exact .inl ⟨rfl, e⟩
theorem ex_get {α : Type} {id : Nat} {k : Blk → Prog α} {tr : Bool} {h : Hp} {f : Foot} {r : α × Hp × Foot} (e : ex (.get id k) tr h f = some r) :
    ∃ b, findB h.blks id = some b ∧ ex (k b) tr h (addR tr f id) = some r := by
  simp only [ex, run] at e
  split at e
  · rename_i b hb; exact ⟨b, hb, e⟩
  · cases e
theorem ex_put {α : Type} {id : Nat} {b : Blk} {k : Prog α} {tr : Bool} {h : Hp} {f : Foot} {r : α × Hp × Foot} (e : ex (.put id b k) tr h f = some r) :
    (∃ b', findB h.blks id = some b') ∧ ex k tr ⟨setB h.blks id b, h.c⟩ (addW tr f id) = some r := by
  simp only [ex, run] at e
  split at e
  · rename_i b' hb; exact ⟨⟨b', hb⟩, e⟩
  · cases e
theorem ex_del {α : Type} {id : Nat} {k : Prog α} {tr : Bool} {h : Hp} {f : Foot} {r : α × Hp × Foot} (e : ex (.del id k) tr h f = some r) :
    (∃ b', findB h.blks id = some b') ∧ ex k tr ⟨delB h.blks id, h.c⟩ (addW tr f id) = some r := by
  simp only [ex, run] at e
  split at e
  · rename_i b' hb; exact ⟨⟨b', hb⟩, e⟩
  · cases e
theorem ex_new {α : Type} {b : Blk} {k : Nat → Prog α} {tr : Bool} {h : Hp} {f : Foot} {r : α × Hp × Foot} (e : ex (.new b k) tr h f = some r) :
    ex (k h.c) tr ⟨(h.c, b) :: h.blks, h.c + 1⟩ (addW tr f h.c) = some r := e
theorem ex_cond {α : Type} {b : Bool} {p q : Prog α} {tr : Bool} {h : Hp} {f : Foot} {r : α × Hp × Foot} (e : ex (bif b then p else q) tr h f = some r) :
    (b = true ∧ ex p tr h f = some r) ∨ (b = false ∧ ex q tr h f = some r) := by
  cases b
  · exact .inr ⟨rfl, e⟩
  · exact .inl ⟨rfl, e⟩

theorem ex_if {α : Type} {c : Prop} [Decidable c] {p q : Prog α} {tr : Bool} {h : Hp} {f : Foot} {r : α × Hp × Foot} (e : ex (if c then p else q) tr h f = some r) :
    (c ∧ ex p tr h f = some r) ∨ (¬ c ∧ ex q tr h f = some r) := by
  by_cases k : c
  · rw [if_pos k] at e; exact .inl ⟨k, e⟩
  · rw [if_neg k] at e; exact .inr ⟨k, e⟩

def zvals : Ty → List Value
  | .int k => [.int k 0]
  | .bool => [.bool false]
  | .str => [.string ByteArray.empty]
  | .sl _ => [.slice none 0 0]
  | .mu _ => [.nilFunc]
  | .st f => zvals f
  | .pair a b => zvals a ++ zvals b

theorem zcells_rep {hdr : Nat → Value} {S : Stb} : ∀ (t : Ty), VReps hdr S (zcells t) (zvals t)
  | .int k => .cons _ _ _ _ (.int k 0) .nil
  | .bool => .cons _ _ _ _ (.bool false) .nil
  | .str => .cons _ _ _ _ (.str _) .nil
  | .sl _ => .cons _ _ _ _ (.nil none) .nil
  | .mu _ => .cons _ _ _ _ (.undef _) .nil
  | .st f => zcells_rep f
  | .pair a b => (zcells_rep a).append (zcells_rep b)

theorem zcells_ids : ∀ (t : Ty), AV.idsL (zcells t) = []
  | .int _ => rfl
  | .bool => rfl
  | .str => rfl
  | .sl _ => rfl
  | .mu _ => rfl
  | .st f => zcells_ids f
  | .pair a b => by
    have : ∀ (x y : List AV), AV.idsL (x ++ y) = AV.idsL x ++ AV.idsL y := fun x y => by induction x with
      | nil => rfl
      | cons c x ih => simp [AV.idsL, ih]
    show AV.idsL (zcells a ++ zcells b) = []
    rw [this, zcells_ids a, zcells_ids b]; rfl

theorem idsL_append (x y : List AV) : AV.idsL (x ++ y) = AV.idsL x ++ AV.idsL y := by
  induction x with
  | nil => rfl
  | cons c x ih => simp [AV.idsL, ih]

theorem idsL_take {n m : Nat} {l : List AV} (h : n ∈ AV.idsL (l.take m)) : n ∈ AV.idsL l := by
  have : AV.idsL l = AV.idsL (l.take m) ++ AV.idsL (l.drop m) := by rw [← idsL_append, List.take_append_drop]
  rw [this]; exact List.mem_append_left _ h
theorem idsL_drop {n m : Nat} {l : List AV} (h : n ∈ AV.idsL (l.drop m)) : n ∈ AV.idsL l := by
  have : AV.idsL l = AV.idsL (l.take m) ++ AV.idsL (l.drop m) := by rw [← idsL_append, List.take_append_drop]
  rw [this]; exact List.mem_append_right _ h
theorem idsL_mem {n : Nat} {l : List AV} {a : AV} (ha : a ∈ l) (hn : n ∈ a.ids) : n ∈ AV.idsL l := by
  induction l with
  | nil => cases ha
  | cons x l ih =>
    simp only [AV.idsL, List.mem_append]
    rcases List.mem_cons.1 ha with rfl | ha
    · exact .inl hn
    · exact .inr (ih ha)

theorem expand_ids : ∀ (t : Ty) (d : D t), AV.idsL (expand t d) = []
  | .int _, _ => rfl
  | .bool, _ => rfl
  | .str, _ => rfl
  | .sl _, _ => rfl
  | .mu _, _ => rfl
  | .st f, d => expand_ids f d
  | .pair a b, d => by
    show AV.idsL (expand a d.1 ++ expand b d.2) = []
    rw [idsL_append, expand_ids a, expand_ids b]; rfl

theorem zvals_len : ∀ (t : Ty), (zvals t).length = t.size
  | .int _ => rfl
  | .bool => rfl
  | .str => rfl
  | .sl _ => rfl
  | .mu _ => rfl
  | .st f => zvals_len f
  | .pair a b => by
    show (zvals a ++ zvals b).length = a.size + b.size
    rw [List.length_append, zvals_len a, zvals_len b]

def UndOk (P : Program) (tab : List (TypeId × TInfo)) (t : TypeId) (i : TInfo) : Prop :=
  match i.ty with
  | .int k => P.underlying t = some (.int k)
  | .bool => P.underlying t = some .bool
  | .str => P.underlying t = some .string
  | .sl e => P.underlying t = some (.slice i.elem) ∧ ∃ ie, tiL tab i.elem = some ie ∧ ie.ty = eTy e
  | .st _ => ∃ fs : Array Field, P.underlying t = some (.struct fs) ∧ fs.size = i.flds.length ∧ ∀ (j : Nat) (p : Nat × Nat), i.flds[j]? = some p → ∃ (fd : Field) (fi : TypeInfo), fs[j]? = some fd ∧ fd.offset = p.1 ∧ P.info? fd.type = some fi ∧ fi.size = p.2
  | .mu _ => ∃ (ps rs : Array TypeId) (v : Bool), P.underlying t = some (.func ps rs v)
  | _ => False

structure TyOk (P : Program) (tab : List (TypeId × TInfo)) (t : TypeId) (i : TInfo) : Prop where
  info : ∃ inf z, P.info? t = some inf ∧ inf.size = i.ty.size ∧ inf.bytes = i.bytes ∧ inf.zero = some z ∧ z.cells.toList = zvals i.ty
  und : UndOk P tab t i
  fld : ∀ f, i.ty = .st f → ∃ fs : Array Field, P.underlying t = some (.struct fs) ∧ ∀ (j : Nat) (off : Nat) (g : Ty), fldTy 0 f j = some (off, g) → ∃ (fd : Field) (i' : TInfo), fs[j]? = some fd ∧ fd.offset = off ∧ tiL tab fd.type = some i' ∧ i'.ty = g

def TabOk (P : Program) (tab : List (TypeId × TInfo)) : Prop := ∀ t i, tiL tab t = some i → TyOk P tab t i

section
variable {P : Program} {tab : List (TypeId × TInfo)} {t : TypeId} {i : TInfo}

theorem TyOk.sizeOf (k : TyOk P tab t i) (w : World) : (sizeOf t).run P w = .ok i.ty.size w := by
  obtain ⟨inf, z, h1, h2, _⟩ := k.info
  simp [Go.sizeOf, typeInfo, h1, h2]
theorem TyOk.bytes (k : TyOk P tab t i) (w : World) : ∃ inf, (typeInfo t).run P w = .ok inf w ∧ inf.bytes = i.bytes := by
  obtain ⟨inf, z, h1, h2, h3, _⟩ := k.info
  exact ⟨inf, by simp [typeInfo, h1], h3⟩
theorem TyOk.zero (k : TyOk P tab t i) (w : World) : ∃ z, (zeroValue t).run P w = .ok z w ∧ z.cells.toList = zvals i.ty := by
  obtain ⟨inf, z, h1, h2, h3, h4, h5⟩ := k.info
  exact ⟨z, by simp [zeroValue, typeInfo, h1, h4], h5⟩
theorem TyOk.isAgg (k : TyOk P tab t i) (w : World) : (Go.isAgg t).run P w = .ok (isSt i.ty) w := by
  have u := k.und
  unfold UndOk at u
  split at u <;> rename_i hty <;> simp only [hty, isSt]
  · simp [Go.isAgg, underlying, u]
  · simp [Go.isAgg, underlying, u]
  · simp [Go.isAgg, underlying, u]
  · simp [Go.isAgg, underlying, u.1]
  · obtain ⟨fs, h, _⟩ := u; simp [Go.isAgg, underlying, h]
  · obtain ⟨ps, rs, vv, h⟩ := u; simp [Go.isAgg, underlying, h]
  · cases u
end

def packV (τ : Ty) (vs : List Value) : Value := bif isSt τ then .agg vs.toArray else match vs with
  | [v] => v
  | _ => undef

theorem pack_rep {hdr : Nat → Value} {S : Stb} (τ : Ty) {cs : List AV} {vs : List Value} (h : VReps hdr S cs vs) : VRep hdr S (pack τ cs) (packV τ vs) := by
  unfold pack packV
  cases isSt τ
  · cases h with
    | nil => exact .undef _
    | cons a v aZs vs h h' => cases h' with
      | nil => exact h
      | cons => exact .undef _
  · exact .agg _ _ h

theorem pack_ids {τ : Ty} {cs : List AV} {n : Nat} (h : n ∈ (pack τ cs).ids) : n ∈ AV.idsL cs := by
  unfold pack at h
  cases e : isSt τ <;> simp only [e, cond_true, cond_false] at h
  · split at h
    · simpa [AV.idsL] using h
    · simp [AV.ids] at h
  · simpa [AV.ids] using h

theorem nonSt_size {τ : Ty} {P : Program} {tab : List (TypeId × TInfo)} {t : TypeId} {i : TInfo} (k : TyOk P tab t i) (e : i.ty = τ) (h : isSt τ = false) : τ.size = 1 := by
  have u := k.und
  unfold UndOk at u
  subst e
  split at u <;> first | exact u.elim | (rename_i hty; simp only [hty, isSt] at h ⊢; first | rfl | cases h)

theorem run_loadVar_in {P : Program} {tab : List (TypeId × TInfo)} {t : TypeId} {i : TInfo} (k : TyOk P tab t i) {w : World} {b : Nat} {cs : Array Value} {et : TypeId} {fr : Nat × Nat}
    (hw : w.heap[b]? = some (.cells cs et fr)) (off : Nat) (vs : List Value) (hlen : vs.length = i.ty.size) (hv : ∀ j, j < vs.length → cs[off + j]? = vs[j]?) :
    (loadVar t (⟨b, off, none⟩ : Addr)).run P w = .ok (packV i.ty vs) w := by
  unfold loadVar
  simp only [Sem.run_bind, k.isAgg, Result.andThen_ok]
  cases e : isSt i.ty
  · have h1 := nonSt_size k rfl e
    rw [h1] at hlen
    match vs, hlen with
    | [v], _ =>
      have := hv 0 (by simp)
      simp only [Nat.add_zero, List.getElem?_cons_zero] at this
      simp [packV, e, run_load, cell_in hw, this]
  · simp only [Sem.run_bind, k.sizeOf, Result.andThen_ok, ← hlen, run_loadCells_in P hw off vs hv, if_true, Sem.run_pure, packV, e, cond_true]

def Sat (P : Program) (o : Oper) (a : Act) (w : World) (tr : Bool) (ok : Nat → Prop) (hdr : Nat → Value) (S : Stb) (h h' : Hp) (v : AV) : Prop :=
  ∀ (next : Act → World → Prop) (Q : Exit → Act → World → Prop),
    (∀ u w' hdr' S', Post tr ok hdr S h w hdr' S' h' w' → VRep hdr' S' v u → (∀ n ∈ v.ids, okn ok h.c h'.c n) → next (a.put o.dst u) w') → o.wp P a w next Q

section
variable {P : Program} {o : Oper} {a : Act} {w : World} {tr : Bool} {ok : Nat → Prop} {hdr : Nat → Value} {S : Stb} {h : Hp}

theorem Sat.value {h' : Hp} {v : AV} {u : Value} {w' : World} {hdr' : Nat → Value} {S' : Stb} (hx : (execOp a.eval o).run P w = .ok (.value u) w') (hp : Post tr ok hdr S h w hdr' S' h' w')
    (hv : VRep hdr' S' v u) (hi : ∀ n ∈ v.ids, okn ok h.c h'.c n) : Sat P o a w tr ok hdr S h h' v := fun next Q K => by
  unfold Oper.wp; rw [hx]; exact K _ _ _ _ hp hv hi

theorem Sat.skip {h' : Hp} {w' : World} {hdr' : Nat → Value} {S' : Stb} (hx : (execOp a.eval o).run P w = .ok .skip w') (hp : Post tr ok hdr S h w hdr' S' h' w') :
    Sat P o a w tr ok hdr S h h' .undef := fun next Q K => by
  unfold Oper.wp; rw [hx]; exact K _ _ _ _ hp (.undef _) (fun n hn => by simp [AV.ids] at hn)

theorem Sat.pure {v : AV} {u : Value} (hr : HReal hdr S h.blks w) (hm : Ment ok h.blks) (hx : (execOp a.eval o).run P w = .ok (.value u) w)
    (hv : VRep hdr S v u) (hi : ∀ n ∈ v.ids, ok n) : Sat P o a w tr ok hdr S h h v :=
  Sat.value hx (Post.refl hr hm) hv fun n hn => .inl (hi n hn)
end

def TReal (hdr : Nat → Value) (S : Stb) (T : Tm) (tmps : Array Value) : Prop := ∀ t, VRep hdr S (getT T t) (tmps.getD t undef)
def TOk (ok : Nat → Prop) (T : Tm) : Prop := ∀ t, ∀ n ∈ (getT T t).ids, ok n

theorem ofConst_rep {hdr : Nat → Value} {S : Stb} (v : Value) : VRep hdr S (ofConst v) v := by
  unfold ofConst
  split
  · exact .int _ _
  · exact .bool _
  · exact .str _
  · exact .nil _
  · exact .undef _

theorem evO_rep {hdr : Nat → Value} {S : Stb} {T : Tm} {a : Act} (hT : TReal hdr S T a.tmps) (x : Operand) : VRep hdr S (evO T x) (a.eval x) := by
  cases x with
  | tmp t => exact hT t
  | const v => exact ofConst_rep v
  | global g => exact .undef _
  | func f => exact .clo f [] [] [] [] .nil .nil

theorem ofConst_ids (v : Value) : (ofConst v).ids = [] := by unfold ofConst; split <;> rfl

theorem evO_ids {ok : Nat → Prop} {T : Tm} (hT : TOk ok T) (x : Operand) : ∀ n ∈ (evO T x).ids, ok n := by
  cases x with
  | tmp t => exact hT t
  | const v => intro n hn; rw [show evO T (.const v) = ofConst v from rfl, ofConst_ids] at hn; cases hn
  | global g => intro n hn; cases hn
  | func f => intro n hn; simp [evO, AV.ids, AV.idsL] at hn

theorem evL_rep {hdr : Nat → Value} {S : Stb} {T : Tm} {a : Act} (hT : TReal hdr S T a.tmps) : ∀ (l : List Operand), VReps hdr S (evL T l) (l.map a.eval)
  | [] => .nil
  | x :: r => .cons _ _ _ _ (evO_rep hT x) (evL_rep hT r)

theorem evL_ids {ok : Nat → Prop} {T : Tm} (hT : TOk ok T) : ∀ (l : List Operand), ∀ n ∈ AV.idsL (evL T l), ok n
  | [], n, hn => by cases hn
  | x :: r, n, hn => by
    simp only [evL, AV.idsL, List.mem_append] at hn
    exact hn.elim (evO_ids hT x n) (evL_ids hT r n)

theorem cellsOf_rep {hdr : Nat → Value} {S : Stb} {a : AV} {v : Value} {cs : List AV} (h : VRep hdr S a v) (e : cellsOf a = some cs) : VReps hdr S cs v.cells.toList := by
  cases h with
  | undef v => cases e
  | int k n => cases e; exact .cons _ _ _ _ (.int k n) .nil
  | bool b => cases e; exact .cons _ _ _ _ (.bool b) .nil
  | str s => cases e; exact .cons _ _ _ _ (.str s) .nil
  | nil a => cases e; exact .cons _ _ _ _ (.nil a) .nil
  | sl t l v h =>
    cases e
    have h' := h
    cases h with
    | slNil => exact .cons _ _ _ _ (.sl _ _ _ h') .nil
    | sl => exact .cons _ _ _ _ (.sl _ _ _ h') .nil
  | ptr id off b h => cases e; exact .cons _ _ _ _ (.ptr id off b h) .nil
  | row id a len cap h => cases e; exact .cons _ _ _ _ (.row id a len cap h) .nil
  | eptr id sz i off b len cap h => cases e; exact .cons _ _ _ _ (.eptr id sz i off b len cap h) .nil
  | sub id sz lo hi a cap h hc => cases e; exact .cons _ _ _ _ (.sub id sz lo hi a cap h hc) .nil
  | vsl e0 id sz n b cap h hc => cases e; exact .cons _ _ _ _ (.vsl e0 id sz n b cap h hc) .nil
  | view cs vs off b o cells hS hc h => cases e; exact .cons _ _ _ _ (.view cs vs off b o cells hS hc h) .nil
  | clo f first caps fs cs h h' => cases e; exact .cons _ _ _ _ (.clo f first caps fs cs h h') .nil
  | agg cs vs h => cases e; simpa [Value.cells] using h
  | tup cs vs h => cases e

theorem cellsOf_ids {a : AV} {cs : List AV} (e : cellsOf a = some cs) {n : Nat} (hn : n ∈ AV.idsL cs) : n ∈ a.ids := by
  unfold cellsOf at e
  split at e <;> cases e
  · simpa [AV.ids] using hn
  · simpa [AV.idsL] using hn
end
end Go.Proofs.YtmjbedjnojcmfaaDoor.Ex

