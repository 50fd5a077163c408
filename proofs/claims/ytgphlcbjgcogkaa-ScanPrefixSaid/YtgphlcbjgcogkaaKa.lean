/- The abstract executor, its words: values without addresses, states, what an operation does to them. The abstract executor: how its words stand for the machine's memory. The abstract executor: cells, read and written. The abstract executor: types' table, loads and stores. The abstract executor: loads and stores, run. The abstract executor: what an operation comes to in the machine. The abstract executor: operations one by one. The abstract executor: indexes, slices, appends. The abstract executor: appends. The abstract executor: lengths, slices, new rows, aggregates. The abstract executor: aggregates. The abstract executor: aggregates compared. The abstract executor: cells laid over a row's. The abstract executor: a row's cells, noughts. -/
import Derived.Orders
import Derived.Scope
import Derived.Laws.AppendOwn
import Derived.Laws.OwnMore
import Derived.Laws.Cells
import Derived.Great.BuildSlice
import Derived.Laws.StructEq
import Derived.Laws.Small
import Derived.Laws.CopyRow
namespace Go.AX
set_option autoImplicit false
set_option linter.unusedVariables false

/-- Data without an address of one's own. -/
inductive D where
  | int (k : IntKind) (n : Int)
  | bool (b : Bool)
  | str (s : ByteArray)
  | nils
  | lst (cells : List D) (len : Nat)
  | lit (v : Value)
  deriving Inhabited

/-- A value in a slot. -/
inductive V where
  | d (x : D)
  | own (id len k : Nat)
  | slc (id off len k : Nat)
  | sla (id s m k len : Nat)
  | ptr (id off : Nat)
  | px (id s m k i j : Nat)
  | pr (id off : Nat)
  | lp (cells : List D) (off : Nat)
  | map (id : Nat)
  | fn (f : FuncId) (caps : List V)
  | agg (l : List V)
  | big (n : Nat) (l : List D)
  | tup (l : List V)
  deriving Inhabited

inductive Blk where
  | box (l : List V)
  | row (l : List D) (k : Nat) (e : TypeId)
  | mp (ka va : Bool) (l : List (List D × List D))
  | mb (ka va : Bool) (l : List (Nat × List D × List D)) (ck : Nat)
  | it (mid : Nat) (seen : List Nat) (ck : Nat)
  | dead
  deriving Inhabited

structure St where
  env : List (Nat × V)
  aw : List (Nat × Blk)
  n : Nat
  sz : Nat

def look {α : Type} : List (Nat × α) → Nat → Option α
  | [], _ => none
  | (a, b) :: t, k => bif Nat.beq a k then some b else look t k

/-- The arithmetic, closed to evaluation by being a variable. -/
structure Prims where
  bin : BinOp → IntKind → Int → Int → Int
  cmp : BinOp → Int → Int → Bool
  wrap : IntKind → Int → Int
  not : Bool → Bool
  and : Bool → Bool → Bool
  eqb : Bool → Bool → Bool
  toNat : Int → Nat
  ofNat : Nat → Int
  idx : Nat → Nat → Nat → Nat
  add : Nat → Nat → Nat
  sub : Nat → Nat → Nat
  rdI : List D → Nat → Int
  rdB : List D → Nat → Bool
  rdC : List D → Nat → List D
  rdN : List D → Nat → Nat
  app : List D → List D → List D
  take : List D → Nat → List D
  drop : List D → Nat → List D
  set : List D → Nat → D → List D
  rep : Nat → D → List D
  repL : Nat → List D → List D
  minI : Int → Int → Int
  maxI : Int → Int → Int
  selI : Bool → Int → Int → Int
  selB : Bool → Bool → Bool → Bool
  eqN : Nat → Nat → Bool
  inR : Int → Int → Nat → Prop
  leN : Nat → Nat → Prop
  has : List D → Nat → D → Prop
  nz : Int → Prop
  len : List D → Nat
  mulNat : Nat → Nat → Nat
  minN : Nat → Nat → Nat
  over : List D → Nat → List D → List D

def binI (op : BinOp) (k : IntKind) (a b : Int) : Int :=
  match op with
  | .add => k.wrap (a + b)
  | .sub => k.wrap (a - b)
  | .mul => k.wrap (a * b)
  | .quo => k.wrap (a.tdiv b)
  | .rem => a.tmod b
  | .and => k.wrap (BitVec.ofInt k.bits a &&& BitVec.ofInt k.bits b).toNat
  | .or => k.wrap (BitVec.ofInt k.bits a ||| BitVec.ofInt k.bits b).toNat
  | .xor => k.wrap (BitVec.ofInt k.bits a ^^^ BitVec.ofInt k.bits b).toNat
  | .andNot => k.wrap (BitVec.ofInt k.bits a &&& ~~~ BitVec.ofInt k.bits b).toNat
  | .shl => k.wrap (a * 2 ^ min b.toNat k.bits)
  | .shr => a.fdiv (2 ^ min b.toNat k.bits)
  | _ => 0

def cmpI (op : BinOp) (x y : Int) : Bool :=
  match op with
  | .eql => x == y
  | .neq => x != y
  | .lss => decide (x < y)
  | .leq => decide (x ≤ y)
  | .gtr => decide (x > y)
  | .geq => decide (x ≥ y)
  | _ => false

def D.toI : D → Int | .int _ n => n | _ => 0
def D.toB : D → Bool | .bool b => b | _ => false
def D.toC : D → List D | .lst l _ => l | _ => []
def D.toN : D → Nat | .lst _ n => n | _ => 0

def std : Prims where
  bin := binI
  cmp := cmpI
  wrap k n := k.wrap n
  not b := !b
  and a b := a && b
  eqb a b := a == b
  toNat := Int.toNat
  ofNat n := (n : Int)
  idx o i k := o + i * k
  add a b := a + b
  sub a b := a - b
  rdI l i := (l.getD i default).toI
  rdB l i := (l.getD i default).toB
  rdC l i := (l.getD i default).toC
  rdN l i := (l.getD i default).toN
  app a b := a ++ b
  take l n := l.take n
  drop l n := l.drop n
  set l i d := l.set i d
  rep n d := List.replicate n d
  repL n l := (List.replicate n l).flatten
  minI a b := if b < a then b else a
  maxI a b := if b > a then b else a
  selI c a b := if c then a else b
  selB c a b := if c then a else b
  eqN a b := a == b
  inR lo i n := lo ≤ i ∧ i < (n : Int)
  leN a b := a ≤ b
  has l i d := l[i]? = some d
  nz b := b ≠ 0
  len l := l.length
  mulNat a b := a * b
  minN a b := Nat.min a b
  over l o d := l.take o ++ d ++ l.drop (o + d.length)

/-- Kinds of leaves of a type's cells. -/
inductive Leaf where
  | int (k : IntKind)
  | bool
  | slc (k : Nat)
  | lit (v : Value)
  | big (n : Nat) (k : IntKind)
  | bigB (n : Nat)
  deriving Inhabited

inductive TD where
  | int (k : IntKind)
  | bool
  | slice (e : TypeId)
  | array (n : Nat) (e : TypeId)
  | struct (fs : List (Nat × TypeId))
  | pointer (e : TypeId)
  | map (k e : TypeId)
  | other
  deriving Inhabited

structure TI where
  size : Nat
  bytes : Nat
  agg : Bool
  eq : Bool
  leaves : List Leaf
  td : TD
  deriving Inhabited

abbrev TT := Nat → Option TI

def zeroL (I : Prims) : List Leaf → List V
  | [] => []
  | .int k :: t => .d (.int k 0) :: zeroL I t
  | .bool :: t => .d (.bool false) :: zeroL I t
  | .slc _ :: t => .d .nils :: zeroL I t
  | .lit v :: t => .d (.lit v) :: zeroL I t
  | .big n k :: t => .big n (I.rep n (.int k 0)) :: zeroL I t
  | .bigB n :: t => .big n (I.rep n (.bool false)) :: zeroL I t

def V.sz : V → Nat | .big n _ => n | _ => 1
def V.cells : V → List V | .agg l => l | v => [v]
def szs : List V → Nat
  | [] => 0
  | v :: t => Nat.add v.sz (szs t)

/-- The segments from an offset on, of a size. -/
def cut : List V → Nat → Nat → Option (List V)
  | _, 0, 0 => some []
  | [], _, _ => none
  | v :: t, 0, n => bif Nat.ble v.sz n then (match cut t 0 (Nat.sub n v.sz) with | some r => some (v :: r) | none => none) else none
  | v :: t, o, n => bif Nat.ble v.sz o then cut t (Nat.sub o v.sz) n else none

def splice : List V → Nat → List V → Option (List V)
  | l, 0, [] => some l
  | [], _, _ => none
  | v :: t, 0, c :: cs => bif Nat.beq v.sz c.sz then (match splice t 0 cs with | some r => some (c :: r) | none => none) else none
  | v :: t, o, cs => bif Nat.ble v.sz o then (match splice t (Nat.sub o v.sz) cs with | some r => some (v :: r) | none => none) else none

/-- Data on its way into memory: a nil slice is one that holds nothing. -/
def D.nl : D → D
  | .nils => .lst [] 0
  | .int k n => .int k n
  | .bool b => .bool b
  | .lst l n => .lst l n
  | .str s => .str s
  | .lit v => .lit v

/-- All plain data, ahead of other data. -/
def plainK (I : Prims) : List V → List D → Option (List D)
  | [], r => some r
  | .d x :: t, r => (match plainK I t r with | some q => some (x.nl :: q) | none => none)
  | .big _ l :: t, r => (match plainK I t r with | some q => some (I.app l q) | none => none)
  | _, _ => none
def plain (I : Prims) (l : List V) : Option (List D) := plainK I l []

/-- A type's leaves, read out of a list of data at an offset. -/
def rdLs (I : Prims) (cells : List D) (off : Nat) : List Leaf → Nat → Option (List V × Prop)
  | [], _ => some ([], True)
  | l :: t, p =>
    match l with
    | .int k => (match rdLs I cells off t (Nat.succ p) with
        | some (r, s) => some (.d (.int k (I.rdI cells (I.add off p))) :: r, I.has cells (I.add off p) (.int k (I.rdI cells (I.add off p))) ∧ s)
        | none => none)
    | .bool => (match rdLs I cells off t (Nat.succ p) with
        | some (r, s) => some (.d (.bool (I.rdB cells (I.add off p))) :: r, I.has cells (I.add off p) (.bool (I.rdB cells (I.add off p))) ∧ s)
        | none => none)
    | .slc _ => (match rdLs I cells off t (Nat.succ p) with
        | some (r, s) => some (.d (.lst (I.rdC cells (I.add off p)) (I.rdN cells (I.add off p))) :: r, I.has cells (I.add off p) (.lst (I.rdC cells (I.add off p)) (I.rdN cells (I.add off p))) ∧ s)
        | none => none)
    | .lit _ => none
    | .big n _ => (match rdLs I cells off t (Nat.add p n) with
        | some (r, s) => some (.big n (I.take (I.drop cells (I.add off p)) n) :: r, I.leN (I.add (I.add off p) n) (I.len cells) ∧ s)
        | none => none)
    | .bigB n => (match rdLs I cells off t (Nat.add p n) with
        | some (r, s) => some (.big n (I.take (I.drop cells (I.add off p)) n) :: r, I.leN (I.add (I.add off p) n) (I.len cells) ∧ s)
        | none => none)

structure Res where
  val : V
  wr : List (Nat × Blk)
  dn : Nat
  side : Prop

def pure' (v : V) : Option Res := some ⟨v, [], 0, True⟩

/-- One value out of a type's cells. -/
def asVal (agg : Bool) (l : List V) : Option V :=
  bif agg then some (.agg l) else match l with
    | [.big _ _] => none
    | [v] => some v
    | _ => none

def flatD (I : Prims) (l : List V) : Option (List D) :=
  match l with
  | [.big _ d] => some d
  | l => plain I l

def offOf : List (Nat × TypeId) → Nat → Option (Nat × TypeId)
  | [], _ => none
  | a :: _, 0 => some a
  | _ :: t, n + 1 => offOf t n

def rLoad (I : Prims) (ti : TI) (a : V) (bs : List Blk) : Option Res :=
  match a, bs with
  | .ptr id off, [.box l] => (match cut l off ti.size with
      | some c => (match asVal ti.agg c with | some v => pure' v | none => none)
      | none => none)
  | .pr id off, [.row l k e] => (match rdLs I l off ti.leaves 0 with
      | some (c, s) => (match asVal ti.agg c with | some v => some ⟨v, [], 0, s⟩ | none => none)
      | none => none)
  | .lp l off, [] => (match rdLs I l off ti.leaves 0 with
      | some (c, s) => (match asVal ti.agg c with | some v => some ⟨v, [], 0, s⟩ | none => none)
      | none => none)
  | .px id s m k i j, [.box l] => (match cut l s (Nat.mul m k) with
      | some c => (match flatD I c with
          | some ds => (match rdLs I ds (I.idx j i k) ti.leaves 0 with
              | some (c, s) => (match asVal ti.agg c with | some v => some ⟨v, [], 0, s⟩ | none => none)
              | none => none)
          | none => none)
      | none => none)
  | _, _ => none

def setAll (I : Prims) (l : List D) (off : Nat) : List D → Nat → List D
  | [], _ => l
  | d :: t, p => I.set (setAll I l off t (Nat.succ p)) (I.add off p) d

/-- A cell of a small array, behind a store at an index that is not known. -/
def selCell (I : Prims) (at_ p : Nat) (new : D) : V → Option V
  | .d (.int k a) => (match new with
      | .int k' b => bif decide (k = k') then some (.d (.int k (I.selI (I.eqN at_ p) b a))) else none
      | _ => none)
  | .d (.bool a) => (match new with
      | .bool b => some (.d (.bool (I.selB (I.eqN at_ p) b a)))
      | _ => none)
  | _ => none

def selAll (I : Prims) (at_ : Nat) (new : D) : List V → Nat → Option (List V)
  | [], _ => some []
  | x :: t, p => (match selCell I at_ p new x, selAll I at_ new t (Nat.succ p) with
      | some y, some r => some (y :: r)
      | _, _ => none)

def V.notTup : V → Bool | .tup _ => false | _ => true

def rStore (I : Prims) (ti : TI) (a x : V) (bs : List Blk) : Option Res :=
  match a, bs with
  | .ptr id off, [.box l] => bif (x.notTup && Nat.beq (szs x.cells) ti.size) then (match splice l off x.cells with
      | some l' => some ⟨.tup [], [(id, .box l')], 0, True⟩
      | none => none) else none
  | .pr id off, [.row l k e] => (match plain I x.cells with
      | some ds => bif Nat.beq (szs x.cells) ti.size then some ⟨.tup [], [(id, .row (setAll I l off ds 0) k e)], 0, I.leN (I.add off ti.size) (I.len l)⟩ else none
      | none => none)
  | .px id s m k i j, [.box l] => (match x.cells with
      | [.d d] => bif Nat.beq ti.size 1 then (match cut l s (Nat.mul m k) with
          | some [.big n ds] => (match splice l s [.big n (I.set ds (I.idx j i k) d)] with
              | some l' => some ⟨.tup [], [(id, .box l')], 0, I.leN (I.add (I.idx j i k) 1) n⟩
              | none => none)
          | some c => (match selAll I (I.idx j i k) d c 0 with
              | some c' => (match splice l s c' with
                  | some l' => some ⟨.tup [], [(id, .box l')], 0, I.leN (I.add (I.idx j i k) 1) (Nat.mul m k)⟩
                  | none => none)
              | none => none)
          | none => none) else none
      | _ => none)
  | _, _ => none

def rFieldAddr (I : Prims) (o : Nat) (a : V) : Option Res :=
  match a with
  | .ptr id off => pure' (.ptr id (Nat.add off o))
  | .pr id off => pure' (.pr id (I.add off o))
  | .lp l off => pure' (.lp l (I.add off o))
  | .px id s m k i j => pure' (.px id s m k i (Nat.add j o))
  | _ => none

/-- An index that the text tells, or one that is not known. -/
def rIndexAddr (I : Prims) (arr : Option Nat) (k : Nat) (x : V) (lit : Option Nat) (i : V) : Option Res :=
  match i with
  | .d (.int ik n) => (match arr with
      | some m => (match x, lit with
          | .ptr id off, some c => bif Nat.blt c m then pure' (.ptr id (Nat.add off (Nat.mul c k))) else none
          | .ptr id off, none => some ⟨.px id off m k (I.toNat n) 0, [], 0, I.inR 0 n m⟩
          | .pr id off, _ => some ⟨.pr id (I.idx off (I.toNat n) k), [], 0, I.inR 0 n m⟩
          | .lp l off, _ => some ⟨.lp l (I.idx off (I.toNat n) k), [], 0, I.inR 0 n m⟩
          | _, _ => none)
      | none => (match x with
          | .own id len k' => bif Nat.beq k k' then some ⟨.pr id (I.idx 0 (I.toNat n) k), [], 0, I.inR 0 n len⟩ else none
          | .slc id off len k' => bif Nat.beq k k' then some ⟨.pr id (I.idx off (I.toNat n) k), [], 0, I.inR 0 n len⟩ else none
          | .sla id s m k' len => bif Nat.beq k k' then some ⟨.px id s m k (I.toNat n) 0, [], 0, I.inR 0 n len⟩ else none
          | .d (.lst l len) => some ⟨.lp l (I.idx 0 (I.toNat n) k), [], 0, I.inR 0 n len⟩
          | _ => none))
  | _ => none

def rIndex (I : Prims) (m k : Nat) (ti : TI) (x : V) (lit : Option Nat) (i : V) : Option Res :=
  match i, x with
  | .d (.int _ n), .agg l => (match lit with
      | some c => bif Nat.blt c m then (match cut l (Nat.mul c k) k with
          | some c => (match asVal ti.agg c with | some v => pure' v | none => none)
          | none => none) else none
      | none => (match flatD I l with
          | some ds => (match rdLs I ds (I.idx 0 (I.toNat n) k) ti.leaves 0 with
              | some (c, s) => (match asVal ti.agg c with | some v => some ⟨v, [], 0, I.inR 0 n m ∧ s⟩ | none => none)
              | none => none)
          | none => none))
  | _, _ => none

def rField (o : Nat) (ti : TI) (x : V) : Option Res :=
  match x with
  | .agg l => (match cut l o ti.size with
      | some c => (match asVal ti.agg c with | some v => pure' v | none => none)
      | none => none)
  | _ => none

/-- Of a type that is compared cell by cell, the cells' kinds (none: bool). -/
def kinds : List Leaf → Option (List (Option IntKind))
  | [] => some []
  | .int k :: t => (match kinds t with | some r => some (some k :: r) | none => none)
  | .bool :: t => (match kinds t with | some r => some (none :: r) | none => none)
  | .big n k :: t => (match kinds t with | some r => some (List.replicate n (some k) ++ r) | none => none)
  | _ => none

/-- Cell by cell: are two lists of cells the same? -/
def eqList (I : Prims) : List (Option IntKind) → List V → List V → Option (List Bool)
  | [], [], [] => some []
  | some q :: ks, .d (.int j a) :: s, .d (.int k b) :: t => bif (decide (j = q) && decide (k = q)) then (match eqList I ks s t with | some r => some (I.cmp .eql a b :: r) | none => none) else none
  | none :: ks, .d (.bool a) :: s, .d (.bool b) :: t => (match eqList I ks s t with | some r => some (I.eqb a b :: r) | none => none)
  | _, _, _ => none

def conj (I : Prims) : List Bool → Bool
  | [] => true
  | [b] => b
  | b :: t => I.and b (conj I t)

def rBin (I : Prims) (op : BinOp) (x y : V) : Option Res :=
  match x, y with
  | .d (.int j a), .d (.int k b) => (match op with
      | .add | .sub | .mul | .and | .or | .xor | .andNot => bif decide (j = k) then pure' (.d (.int j (I.bin op j a b))) else none
      | .quo | .rem => bif decide (j = k) then some ⟨.d (.int j (I.bin op j a b)), [], 0, I.nz b⟩ else none
      | .shl | .shr => some ⟨.d (.int j (I.bin op j a b)), [], 0, I.inR 0 b 18446744073709551616⟩
      | .eql | .neq | .lss | .leq | .gtr | .geq => bif decide (j = k) then pure' (.d (.bool (I.cmp op a b))) else none)
  | .d (.bool a), .d (.bool b) => (match op with
      | .eql => pure' (.d (.bool (I.eqb a b)))
      | .neq => pure' (.d (.bool (I.not (I.eqb a b))))
      | _ => none)
  | _, _ => none

def rEqAgg (I : Prims) (ks : List (Option IntKind)) (op : BinOp) (x y : V) : Option Res :=
  match x, y with
  | .agg l, .agg m => (match eqList I ks l m, op with
      | some b, .eql => pure' (.d (.bool (conj I b)))
      | some b, .neq => pure' (.d (.bool (I.not (conj I b))))
      | _, _ => none)
  | _, _ => none

def rUn (I : Prims) (op : UnOp) (x : V) : Option Res :=
  match op, x with
  | .not, .d (.bool b) => pure' (.d (.bool (I.not b)))
  | .neg, .d (.int k a) => pure' (.d (.int k (I.bin .sub k 0 a)))
  | .xor, .d (.int .u32 a) => pure' (.d (.int .u32 (I.bin .xor .u32 4294967295 a)))
  | _, _ => none

def rPick (I : Prims) (c a b : V) : Option Res :=
  match c with
  | .d (.bool x) => (match a, b with
      | .tup [], v => some ⟨v, [], 0, x = false⟩
      | v, .tup [] => some ⟨v, [], 0, x = true⟩
      | .d (.bool p), .d (.bool q) => pure' (.d (.bool (I.selB x p q)))
      | .d (.int j p), .d (.int k q) => bif decide (j = k) then pure' (.d (.int j (I.selI x p q))) else none
      | _, _ => none)
  | _ => none

def rLen (I : Prims) (x : V) : Option Res :=
  match x with
  | .d (.lst _ n) => pure' (.d (.int .i64 (I.ofNat n)))
  | .d .nils => pure' (.d (.int .i64 0))
  | .own _ n _ => pure' (.d (.int .i64 (I.ofNat n)))
  | .slc _ _ n _ => pure' (.d (.int .i64 (I.ofNat n)))
  | .sla _ _ _ _ n => pure' (.d (.int .i64 (I.ofNat n)))
  | _ => none

/-- The great leaf that holds so many cells from a place on: where it begins, its length. -/
def coverB : List V → Nat → Nat → Nat → Option (Nat × Nat)
  | [], _, _, _ => none
  | .big n _ :: t, p, s, z => bif (Nat.ble p s && Nat.ble (Nat.add s z) (Nat.add p n)) then some (p, n) else coverB t (Nat.add p n) s z
  | _ :: t, p, s, z => coverB t (Nat.succ p) s z
/-- The same with its cells. -/
def coverD (l : List V) (s z : Nat) : Option (Nat × Nat × List D) :=
  match coverB l 0 s z with
  | some (p, n) => (match cut l p n with
      | some [.big n' d] => bif (Nat.beq n n' && Nat.ble p s && Nat.ble (Nat.add s z) (Nat.add p n)) then some (p, n, d) else none
      | _ => none)
  | none => none

/-- The cells of a slice that is read, and how many elements. -/
def seen (I : Prims) (k : Nat) (x : V) (b : Option Blk) : Option (List D × Nat × Prop) :=
  match x, b with
  | .d (.lst l n), _ => some (I.take l (I.mulNat n k), n, I.leN (I.mulNat n k) (I.len l))
  | .d .nils, _ => some ([], 0, True)
  | .own _ n k', some (.row l _ _) => bif Nat.beq k k' then some (I.take l (I.mulNat n k), n, I.leN (I.mulNat n k) (I.len l)) else none
  | .slc _ off n k', some (.row l _ _) => bif Nat.beq k k' then some (I.take (I.drop l off) (I.mulNat n k), n, I.leN (I.add off (I.mulNat n k)) (I.len l)) else none
  | .sla _ s m k' n, some (.box l) => bif Nat.beq k k' then (match cut l s (Nat.mul m k) with
      | some c => (match flatD I c with | some ds => some (I.take ds (I.mulNat n k), n, True) | none => none)
      | none => (match coverD l s (Nat.mul m k) with
          | some (p, _, d) => some (I.take (I.drop d (Nat.sub s p)) (I.mulNat n k), n, True)
          | none => none)) else none
  | _, _ => none

def V.id? : V → Option Nat
  | .own i _ _ | .slc i _ _ _ | .sla i _ _ _ _ | .ptr i _ | .px i _ _ _ _ _ | .pr i _ | .map i => some i
  | _ => none

def lastB : List Blk → Option Blk
  | [] => none
  | [b] => some b
  | _ :: t => lastB t

def rAppend (I : Prims) (k bytes : Nat) (e : TypeId) (n : Nat) (s x : V) (bs : List Blk) : Option Res :=
  match s with
  | .d .nils => (match seen I k x (lastB bs) with
      | some (ds, m, p) => some ⟨.own n m k, [(n, .row ds k e)], 1, p ∧ I.leN (I.mulNat m bytes) 140737488355328 ∧ I.leN m 4611686018427387904⟩
      | none => none)
  | .own id len k' => (match bs with
      | .row l k'' e' :: _ => bif (Nat.beq k k' && Nat.beq e e') then (match seen I k x (lastB bs) with
          | some (ds, m, p) => some ⟨.own n (I.add len m) k, [(n, .row (I.app (I.take l (I.mulNat len k)) ds) k e), (id, .dead)], 1, p ∧ I.leN (I.mulNat len k) (I.len l) ∧ I.leN (I.mulNat (I.add len m) bytes) 140737488355328 ∧ I.leN (I.add len m) 4611686018427387904⟩
          | none => none) else none
      | _ => none)
  | _ => none

/-- Cells laid over a row's. -/
def rCopy (I : Prims) (k : Nat) (dst src : V) (bs : List Blk) : Option Res :=
  match dst, bs with
  | .own id len k', .row l k'' e :: _ => bif (Nat.beq k k' && Nat.beq k k'') then (match seen I k src (lastB bs) with
      | some (ds, m, p) => some ⟨.d (.int .i64 (I.ofNat (I.minN m len))), [(id, .row (I.over l 0 (I.take ds (I.mulNat (I.minN m len) k))) k'' e)], 0, p ∧ I.leN (I.mulNat len k) (I.len l)⟩
      | none => none) else none
  | .slc id off len k', .row l k'' e :: _ => bif (Nat.beq k k' && Nat.beq k k'') then (match seen I k src (lastB bs) with
      | some (ds, m, p) => some ⟨.d (.int .i64 (I.ofNat (I.minN m len))), [(id, .row (I.over l off (I.take ds (I.mulNat (I.minN m len) k))) k'' e)], 0, p ∧ I.leN (I.add off (I.mulNat len k)) (I.len l)⟩
      | none => none) else none
  | .sla id s m' k' len, .box l :: _ => bif Nat.beq k k' then (match cut l s (Nat.mul m' k) with
      | some [.big n d] => (match seen I k src (lastB bs) with
          | some (ds, m, p) => (match splice l s [.big n (I.over d 0 (I.take ds (I.mulNat (I.minN m len) k)))] with
              | some l' => some ⟨.d (.int .i64 (I.ofNat (I.minN m len))), [(id, .box l')], 0, p ∧ I.leN (I.mulNat len k) n⟩
              | none => none)
          | none => none)
      | _ => (match coverD l s (Nat.mul m' k) with
          | some (p, n, d) => (match seen I k src (lastB bs) with
              | some (ds, m, q) => (match splice l p [.big n (I.over d (Nat.sub s p) (I.take ds (I.mulNat (I.minN m len) k)))] with
                  | some l' => some ⟨.d (.int .i64 (I.ofNat (I.minN m len))), [(id, .box l')], 0, q⟩
                  | none => none)
              | none => none)
          | none => none)) else none
  | _, _ => none

/-- A row's cells, noughts. -/
def rClear (I : Prims) (te : TI) (s : V) (bs : List Blk) : Option Res :=
  match plain I (zeroL I te.leaves) with
  | some z => bif Nat.beq (szs (zeroL I te.leaves)) te.size then (match s, bs with
      | .own id len k, [.row l k' e] => bif (Nat.beq te.size k && Nat.beq te.size k') then some ⟨.tup [], [(id, .row (I.over l 0 (I.repL len z)) k' e)], 0, I.leN (I.mulNat len k) (I.len l)⟩ else none
      | .slc id off len k, [.row l k' e] => bif (Nat.beq te.size k && Nat.beq te.size k') then some ⟨.tup [], [(id, .row (I.over l off (I.repL len z)) k' e)], 0, I.leN (I.add off (I.mulNat len k)) (I.len l)⟩ else none
      | _, _ => none) else none
  | none => none

/-- The blocks that an operation looks at. -/
def ids : List V → List Nat
  | [] => []
  | v :: t => match v.id? with | some i => i :: ids t | none => ids t

def asInt' : Operand → Option Nat
  | .const (.int _ (.ofNat n)) => some n
  | _ => none

/-- An index that the text tells, but into a great array. -/
def litIx (m : Nat) (x : Operand) : Option Nat := bif Nat.blt 8 m then none else asInt' x

/-- A cell of a great array. -/
def bigSet (I : Prims) : List V → Nat → D → Option (List V)
  | .big n l :: t, o, x => bif Nat.blt o n then some (.big n (I.set l o x) :: t) else none
  | _, _, _ => none
def splB (I : Prims) (l : List V) (o : Nat) (c : List V) : Option (List V) :=
  match splice l o c with
  | some r => some r
  | none => (match c with
      | [.d x] => bigSet I l o x
      | _ => none)
def fill' (I : Prims) (places : Nat → Option (Nat × Nat)) : List V → List (Nat × V) → Option (List V)
  | l, [] => some l
  | l, (i, v) :: t => match places i with
    | some (o, sz) => bif (v.notTup && Nat.beq (szs v.cells) sz) then (match splB I l o v.cells with | some l' => fill' I places l' t | none => none) else none
    | none => none

/-- Of values' cells, the plain data. -/
def plainAll (I : Prims) : List V → Option (List D)
  | [] => some []
  | v :: t => match plainAll I t with
    | some r => plainK I v.cells r
    | none => none

def sizeIs (l : List V) (k : Nat) : Bool :=
  match l with
  | [] => true
  | v :: t => Nat.beq (szs v.cells) k && sizeIs t k

/-- The parts of a slice that is written out: each place once, in order. -/
def inOrder : List (Nat × Operand) → Nat → Bool
  | [], _ => true
  | (i, _) :: t, n => Nat.beq i n && inOrder t (Nat.succ n)

def rSlice (I : Prims) (k : Nat) (x : V) (lo hi : Option V) : Option Res :=
  match x with
  | .d (.lst l len) => (match lo, hi with
      | none, none => pure' x
      | some (.d (.int _ a)), none => some ⟨.d (.lst (I.drop l (I.mulNat (I.toNat a) k)) (I.sub len (I.toNat a))), [], 0, I.inR 0 a (Nat.succ len)⟩
      | none, some (.d (.int _ b)) => some ⟨.d (.lst (I.take l (I.mulNat (I.toNat b) k)) (I.toNat b)), [], 0, I.inR 0 b (Nat.succ len)⟩
      | some (.d (.int _ a)), some (.d (.int _ b)) => some ⟨.d (.lst (I.take (I.drop l (I.mulNat (I.toNat a) k)) (I.mulNat (I.sub (I.toNat b) (I.toNat a)) k)) (I.sub (I.toNat b) (I.toNat a))), [], 0, I.inR 0 a (Nat.succ (I.toNat b)) ∧ I.inR 0 b (Nat.succ len)⟩
      | _, _ => none)
  | .own id len k' => bif Nat.beq k k' then (match lo, hi with
      | none, some (.d (.int _ b)) => some ⟨.own id (I.toNat b) k, [], 0, I.inR 0 b (Nat.succ len)⟩
      | some (.d (.int _ a)), none => some ⟨.slc id (I.idx 0 (I.toNat a) k) (I.sub len (I.toNat a)) k, [], 0, I.inR 0 a (Nat.succ len) ∧ I.leN 1 len⟩
      | some (.d (.int _ a)), some (.d (.int _ b)) => some ⟨.slc id (I.idx 0 (I.toNat a) k) (I.sub (I.toNat b) (I.toNat a)) k, [], 0, I.inR 0 a (Nat.succ (I.toNat b)) ∧ I.inR 0 b (Nat.succ len) ∧ I.leN 1 len⟩
      | _, _ => none) else none
  | .d .nils => (match lo, hi with
      | none, some (.d (.int _ b)) => some ⟨.d .nils, [], 0, I.inR 0 b 1⟩
      | _, _ => none)
  | .sla id s m k' len => bif Nat.beq k k' then (match lo, hi with
      | none, some (.d (.int _ b)) => some ⟨.sla id s m k (I.toNat b), [], 0, I.inR 0 b (Nat.succ len)⟩
      | _, _ => none) else none
  | _ => none

/-- A part of an array's slice, from a place that the text tells. -/
def rSlaFrom (k : Nat) (x : V) (lit : Option Nat) : Option Res :=
  match x, lit with
  | .sla id s m k' len, some c => bif (Nat.beq k k' && Nat.ble c len) then pure' (.sla id (Nat.add s (Nat.mul c k)) (Nat.sub m c) k (Nat.sub len c)) else none
  | _, _ => none
def rArrFrom (m k : Nat) (x : V) (lit : Option Nat) : Option Res :=
  match x, lit with
  | .ptr id off, some c => bif Nat.ble c m then pure' (.sla id (Nat.add off (Nat.mul c k)) (Nat.sub m c) k (Nat.sub m c)) else none
  | _, _ => none
def isSla : V → Bool
  | .sla _ _ _ _ _ => true
  | _ => false

/-- nil, made longer by as many zeros: nothing is told of them. -/
def rGrow0 (I : Prims) (te : TI) (e : TypeId) (n : Nat) (s x : V) : Option Res :=
  match s, x with
  | .d .nils, .d (.int _ a) => some ⟨.own n (I.toNat a) te.size, [(n, .row [] te.size e)], 1, I.inR 0 a 4611686018427387905 ∧ I.leN (I.mulNat (I.toNat a) te.bytes) 140737488355328⟩
  | _, _ => none

/-- An array's slice. -/
def rSliceArr (I : Prims) (m k : Nat) (x : V) (hi : Option V) : Option Res :=
  match x with
  | .ptr id off => (match hi with
      | none => pure' (.sla id off m k m)
      | some (.d (.int _ b)) => some ⟨.sla id off m k (I.toNat b), [], 0, I.inR 0 b (Nat.succ m)⟩
      | _ => none)
  | .lp l off => (match hi with
      | none => pure' (.d (.lst (I.drop l off) m))
      | _ => none)
  | _ => none

def tdSlice (tt : TT) (t : TypeId) : Option (TypeId × TI) :=
  match tt t with
  | some ti => (match ti.td with
      | .slice e => (match tt e with | some te => some (e, te) | none => none)
      | _ => none)
  | none => none

def kindOf (tt : TT) (t : TypeId) : Option IntKind :=
  match tt t with
  | some ti => (match ti.td with | .int k => some k | _ => none)
  | none => none

def zipParts : List (Nat × Operand) → List V → List (Nat × V)
  | (i, _) :: t, v :: vs => (i, v) :: zipParts t vs
  | _, _ => []

def nthV : List V → Nat → Option V
  | [], _ => none
  | v :: _, 0 => some v
  | _ :: t, n + 1 => nthV t n

def rMinMax (I : Prims) (mx : Bool) : List V → Option Res
  | [.d (.int j a), .d (.int k b)] => bif decide (j = k) then pure' (.d (.int j (bif mx then I.maxI a b else I.minI a b))) else none
  | _ => none

def rMake (I : Prims) (e : TypeId) (te : TI) (n : Nat) (l c : V) : Option Res :=
  match l, c with
  | .d (.int _ a), .d (.int _ b) => (match plain I (zeroL I te.leaves) with
      | some z => bif Nat.beq (szs (zeroL I te.leaves)) te.size then some ⟨.own n (I.toNat a) te.size, [(n, .row (I.repL (I.toNat a) z) te.size e)], 1, I.inR 0 a (Nat.succ (I.toNat b)) ∧ I.inR 0 b 4611686018427387905 ∧ I.leN (I.mulNat (I.toNat b) te.bytes) 140737488355328⟩ else none
      | none => none)
  | _, _ => none

/-- What an operation comes to, its operands' values and the blocks that it looks at being known. -/
def opR (I : Prims) (tt : TT) (op : Op) (vs : List V) (bs : List Blk) (n : Nat) : Option Res :=
  match op, vs with
  | .move _, [v] => pure' v
  | .assign _, [v] => pure' v
  | .box _ _, [v] => bif v.notTup then some ⟨.ptr n 0, [(n, .box v.cells)], 1, True⟩ else none
  | .alloc t, [] => (match tt t with
      | some ti => some ⟨.ptr n 0, [(n, .box (zeroL I ti.leaves))], 1, True⟩
      | none => none)
  | .build t parts, vs => (match tt t with
      | some ti => (match ti.td with
          | .struct fs => (match fill' I (fun i => match offOf fs i with | some (o, ft) => (match tt ft with | some tf => some (o, tf.size) | none => none) | none => none) (zeroL I ti.leaves) (zipParts parts.toList vs) with
              | some l => pure' (.agg l)
              | none => none)
          | .array m e => (match tt e with
              | some te => (match fill' I (fun i => some (Nat.mul i te.size, te.size)) (zeroL I ti.leaves) (zipParts parts.toList vs) with
                  | some l => pure' (.agg l)
                  | none => none)
              | none => none)
          | _ => none)
      | none => none)
  | .buildSlice t len parts, vs => (match tdSlice tt t with
      | some (e, te) => bif (!Nat.beq te.size 0 && Nat.beq len parts.toList.length && Nat.beq len vs.length && inOrder parts.toList 0 && sizeIs vs te.size) then (match plainAll I vs with
          | some ds => some ⟨.own n len te.size, [(n, .row ds te.size e)], 1, I.leN (Nat.mul len te.size) 16777216⟩
          | none => none) else none
      | none => none)
  | .load t _, [a] => (match tt t with
      | some ti => rLoad I ti a bs
      | none => none)
  | .store t _ _, [a, x] => (match tt t with
      | some ti => rStore I ti a x bs
      | none => none)
  | .nilCheck _, [a] => (match a with
      | .ptr _ _ | .px _ _ _ _ _ _ | .pr _ _ | .lp _ _ => pure' a
      | _ => none)
  | .binOp o t _ _ _, [a, b] => (match a with
      | .agg _ => (match tt t with
          | some ti => bif (ti.agg && ti.eq) then (match kinds ti.leaves with | some ks => rEqAgg I ks o a b | none => none) else none
          | none => none)
      | .d (.bool _) => (match tt t with
          | some ti => (match ti.td with | .bool => rBin I o a b | _ => none)
          | none => none)
      | _ => rBin I o a b)
  | .unOp o _ _, [a] => rUn I o a
  | .pick _ _ _, [c, a, b] => rPick I c a b
  | .convert s t _, [a] => (match tt s with
      | some _ => (match kindOf tt t, a with
          | some k, .d (.int _ x) => pure' (.d (.int k (I.wrap k x)))
          | _, _ => none)
      | none => none)
  | .field t _ f, [a] => (match tt t with
      | some ti => (match ti.td with
          | .struct fs => (match offOf fs f with
              | some (o, ft) => (match tt ft with | some tf => rField o tf a | none => none)
              | none => none)
          | _ => none)
      | none => none)
  | .fieldAddr t _ f, [a] => (match tt t with
      | some ti => (match ti.td with
          | .struct fs => (match offOf fs f with
              | some (o, ft) => (match tt ft with | some tf => bif Nat.beq tf.size 0 then none else rFieldAddr I o a | none => none)
              | none => none)
          | _ => none)
      | none => none)
  | .indexAddr t _ ix, [x, i] => (match tt t with
      | some ti => (match ti.td with
          | .array m e => (match tt e with | some te => rIndexAddr I (some m) te.size x (litIx m ix) i | none => none)
          | .slice e => (match tt e with | some te => rIndexAddr I none te.size x (asInt' ix) i | none => none)
          | _ => none)
      | none => none)
  | .index t _ ix, [x, i] => (match tt t with
      | some ti => (match ti.td with
          | .array m e => (match tt e with | some te => rIndex I m te.size te x (litIx m ix) i | none => none)
          | _ => none)
      | none => none)
  | .extract _ i, [.tup l] => (match nthV l i with | some v => pure' v | none => none)
  | .slice t _ lo hi none, vs => (match tt t with
      | some ti => (match ti.td with
          | .slice e => (match tt e with
              | some te => (match vs, lo, hi with
                  | [x], none, none => rSlice I te.size x none none
                  | [x, a], some l, none => bif isSla x then rSlaFrom te.size x (asInt' l) else rSlice I te.size x (some a) none
                  | [x, b], none, some _ => rSlice I te.size x none (some b)
                  | [x, a, b], some _, some _ => rSlice I te.size x (some a) (some b)
                  | _, _, _ => none)
              | none => none)
          | .array m e => (match tt e with
              | some te => (match vs, lo, hi with
                  | [x], none, none => rSliceArr I m te.size x none
                  | [x, b], none, some _ => rSliceArr I m te.size x (some b)
                  | [x, _], some l, none => rArrFrom m te.size x (asInt' l)
                  | _, _, _ => none)
              | none => none)
          | _ => none)
      | none => none)
  | .makeSlice t _ _, [l, c] => (match tdSlice tt t with
      | some (e, te) => bif Nat.beq te.size 0 then none else rMake I e te n l c
      | none => none)
  | .makeFunc (.func f) first captured, vs => bif Nat.beq first.size 0 then pure' (.fn f vs) else none
  | .call ⟨.builtin .len, _, ts⟩, [x] => (match ts.toList with
      | [t] => (match tt t with
          | some ti => (match ti.td with | .slice _ => rLen I x | _ => none)
          | none => none)
      | _ => none)
  | .call ⟨.builtin .append, _, ts⟩, [s, x] => (match ts.toList with
      | [t, t'] => bif Nat.beq t t' then (match tdSlice tt t with
          | some (e, te) => bif Nat.beq te.size 0 then none else rAppend I te.size te.bytes e n s x bs
          | none => none) else (match kindOf tt t', tdSlice tt t with
          | some _, some (e, te) => bif Nat.beq te.size 0 then none else rGrow0 I te e n s x
          | _, _ => none)
      | _ => none)
  | .call ⟨.builtin .min, _, _⟩, vs => rMinMax I false vs
  | .call ⟨.builtin .max, _, _⟩, vs => rMinMax I true vs
  | .call ⟨.builtin .cap, _, ts⟩, [.d .nils] => (match ts.toList with
      | [t] => (match tdSlice tt t with | some _ => pure' (.d (.int .i64 0)) | none => none)
      | _ => none)
  | .call ⟨.builtin .copy, _, ts⟩, [d, x] => (match ts.toList with
      | [t, t'] => bif Nat.beq t t' then (match tdSlice tt t with
          | some (e, te) => bif Nat.beq te.size 0 then none else rCopy I te.size d x bs
          | none => none) else none
      | _ => none)
  | .call ⟨.builtin .clear, _, ts⟩, [s] => (match ts.toList with
      | [t] => (match tdSlice tt t with
          | some (e, te) => bif Nat.beq te.size 0 then none else rClear I te s bs
          | none => none)
      | _ => none)
  | _, _ => none

/-- A slice, held against nil: (the answer where it is nil, its length where that isn't known). -/
def nilOf (tt : TT) (draw : Bool) (op : Op) (vs : List V) : Option (Bool × Option Nat) :=
  match draw, op, vs with
  | false, .binOp o t _ _ _, [x, .d .nils] => (match tdSlice tt t with
      | some _ => (match o, x with
          | .eql, .d .nils => some (true, none)
          | .neq, .d .nils => some (false, none)
          | .eql, .d (.lst _ n) => some (true, some n)
          | .neq, .d (.lst _ n) => some (false, some n)
          | .eql, .own _ n _ => some (true, some n)
          | .neq, .own _ n _ => some (false, some n)
          | _, _ => none)
      | none => none)
  | _, _, _ => none

/-- The blocks that an operation looks at. -/
def accOf (op : Op) (vs : List V) : List Nat :=
  match op, vs with
  | .load _ _, vs => ids vs
  | .store _ _ _, a :: _ => ids [a]
  | .lookup _ _ _ _, a :: _ => ids [a]
  | .mapUpdate _ _ _ _, a :: _ => ids [a]
  | .call ⟨.builtin .delete, _, _⟩, a :: _ => ids [a]
  | .call ⟨.builtin .clear, _, _⟩, vs => ids vs
  | .call ⟨.builtin .append, _, _⟩, vs => ids vs
  | .call ⟨.builtin .copy, _, _⟩, vs => ids vs
  | _, _ => []

end Go.AX

namespace Go.AX
set_option autoImplicit false
set_option linter.unusedVariables false

structure Emb where
  ρ : Nat → Option (Option Nat)
  κ : Nat → Nat
  H : Nat → Option Obj

mutual
def repD (H : Nat → Option Obj) : D → Value → Prop
  | .int k n, v => v = .int k n
  | .bool b, v => v = .bool b
  | .str s, v => v = .string s
  | .nils, v => v = .slice none 0 0
  | .lit x, v => v = x ∧ x.oneCell' = true
  | .lst cells len, v => ∃ a cap, v = .slice a len cap ∧ len ≤ cap ∧ (len = 0 ∨ ∃ p c e fz, a = some p ∧ p.spot = none ∧ H p.block = some (.cells c e fz) ∧ repDs H cells (c.toList.drop p.off))
def repDs (H : Nat → Option Obj) : List D → List Value → Prop
  | [], _ => True
  | d :: t, vs => ∃ u us, vs = u :: us ∧ repD H d u ∧ repDs H t us
end

mutual
def repV (E : Emb) : V → Value → Prop
  | .d x, v => repD E.H x v
  | .own id len k, v => (E.ρ id = some none ∧ len = 0 ∧ v = .slice none 0 0) ∨
      (∃ b cap, E.ρ id = some (some b) ∧ v = .slice (some ⟨b, 0, none⟩) len cap ∧ len ≤ cap ∧ cap ≤ maxLen ∧ E.κ id = cap * k)
  | .slc id off len k, v => ∃ b cap o, E.ρ id = some (some b) ∧ v = .slice (some ⟨b, o, none⟩) len cap ∧ len ≤ cap ∧ (len ≠ 0 → o = off)
  | .sla id s m k len, v => ∃ b cap o, E.ρ id = some (some b) ∧ v = .slice (some ⟨b, o, none⟩) len cap ∧ len ≤ m ∧ (len ≠ 0 → o = s) ∧ len ≤ cap
  | .ptr id off, v => ∃ b, E.ρ id = some (some b) ∧ v = .pointer (some ⟨b, off, none⟩)
  | .px id s m k i j, v => i < m ∧ ∃ b, E.ρ id = some (some b) ∧ v = .pointer (some ⟨b, s + i * k + j, none⟩)
  | .pr id off, v => ∃ b, E.ρ id = some (some b) ∧ v = .pointer (some ⟨b, off, none⟩)
  | .lp cells off, v => ∃ p c e fz base, v = .pointer (some p) ∧ p.spot = none ∧ E.H p.block = some (.cells c e fz) ∧ p.off = base + off ∧ repDs E.H cells (c.toList.drop base)
  | .map id, v => ∃ b, E.ρ id = some (some b) ∧ v = .map (some b)
  | .fn f caps, v => ∃ cs, v = .func (.func f) #[] cs ∧ repVs E caps cs.toList
  | .agg l, v => ∃ cs, v = .agg cs ∧ repC E l cs.toList
  | .big _ _, _ => False
  | .tup l, v => ∃ cs, v = .tuple cs ∧ repVs E l cs.toList
def repVs (E : Emb) : List V → List Value → Prop
  | [], vs => vs = []
  | x :: t, vs => ∃ u us, vs = u :: us ∧ repV E x u ∧ repVs E t us
def repC (E : Emb) : List V → List Value → Prop
  | [], vs => vs = []
  | x :: t, vs => (∃ n l xs ys, x = .big n l ∧ vs = xs ++ ys ∧ xs.length = n ∧ l.length = n ∧ repDs E.H l xs ∧ repC E t ys) ∨
      (∃ u us, vs = u :: us ∧ u.oneCell' = true ∧ repV E x u ∧ repC E t us)
end

def EmbLe (E E' : Emb) : Prop :=
  (∀ i x, E.ρ i = some x → E'.ρ i = some x) ∧ (∀ i x, E.ρ i = some x → E'.κ i = E.κ i) ∧ (∀ b o, E.H b = some o → E'.H b = some o)

theorem EmbLe.refl (E : Emb) : EmbLe E E := ⟨fun _ _ h => h, fun _ _ _ => rfl, fun _ _ h => h⟩
theorem EmbLe.trans {A B C : Emb} (h : EmbLe A B) (k : EmbLe B C) : EmbLe A C :=
  ⟨fun i x e => k.1 i x (h.1 i x e), fun i x e => (k.2.1 i x (h.1 i x e)).trans (h.2.1 i x e), fun b o e => k.2.2 b o (h.2.2 b o e)⟩

mutual
theorem repD_mono {H H' : Nat → Option Obj} (hH : ∀ b o, H b = some o → H' b = some o) : ∀ (x : D) (v : Value), repD H x v → repD H' x v
  | .int k n, v, h => by simpa [repD] using h
  | .bool b, v, h => by simpa [repD] using h
  | .str s, v, h => by simpa [repD] using h
  | .nils, v, h => by simpa [repD] using h
  | .lit x, v, h => by simpa [repD] using h
  | .lst cells len, v, h => by
    simp only [repD] at h ⊢
    obtain ⟨a, cap, hv, hlc, hc⟩ := h
    refine ⟨a, cap, hv, hlc, hc.imp id ?_⟩
    rintro ⟨p, c, e, fz, ha, hs, hb, hr⟩
    exact ⟨p, c, e, fz, ha, hs, hH _ _ hb, repDs_mono hH cells _ hr⟩
theorem repDs_mono {H H' : Nat → Option Obj} (hH : ∀ b o, H b = some o → H' b = some o) : ∀ (l : List D) (vs : List Value), repDs H l vs → repDs H' l vs
  | [], _, _ => trivial
  | d :: t, vs, h => by
    simp only [repDs] at h ⊢
    obtain ⟨u, us, hv, h1, h2⟩ := h
    exact ⟨u, us, hv, repD_mono hH d u h1, repDs_mono hH t us h2⟩
end

mutual
theorem repV_mono {E E' : Emb} (hE : EmbLe E E') : ∀ (x : V) (v : Value), repV E x v → repV E' x v
  | .d x, v, h => by simp only [repV] at h ⊢; exact repD_mono hE.2.2 x v h
  | .own id len k, v, h => by
    simp only [repV] at h ⊢
    rcases h with ⟨h1, h2⟩ | ⟨b, cap, h1, h2, h3, h4, h5⟩
    · exact .inl ⟨hE.1 _ _ h1, h2⟩
    · exact .inr ⟨b, cap, hE.1 _ _ h1, h2, h3, h4, (hE.2.1 _ _ h1).trans h5⟩
  | .slc id off len k, v, h => by
    simp only [repV] at h ⊢; obtain ⟨b, cap, o, h1, h2⟩ := h; exact ⟨b, cap, o, hE.1 _ _ h1, h2⟩
  | .sla id s m k len, v, h => by
    simp only [repV] at h ⊢; obtain ⟨b, cap, o, h1, h2⟩ := h; exact ⟨b, cap, o, hE.1 _ _ h1, h2⟩
  | .ptr id off, v, h => by simp only [repV] at h ⊢; obtain ⟨b, h1, h2⟩ := h; exact ⟨b, hE.1 _ _ h1, h2⟩
  | .px id s m k i j, v, h => by simp only [repV] at h ⊢; obtain ⟨h0, b, h1, h2⟩ := h; exact ⟨h0, b, hE.1 _ _ h1, h2⟩
  | .pr id off, v, h => by simp only [repV] at h ⊢; obtain ⟨b, h1, h2⟩ := h; exact ⟨b, hE.1 _ _ h1, h2⟩
  | .lp cells off, v, h => by
    simp only [repV] at h ⊢; obtain ⟨p, c, e, fz, base, h1, h2, h3, h4, h5⟩ := h
    exact ⟨p, c, e, fz, base, h1, h2, hE.2.2 _ _ h3, h4, repDs_mono hE.2.2 _ _ h5⟩
  | .map id, v, h => by simp only [repV] at h ⊢; obtain ⟨b, h1, h2⟩ := h; exact ⟨b, hE.1 _ _ h1, h2⟩
  | .fn f caps, v, h => by simp only [repV] at h ⊢; obtain ⟨cs, h1, h2⟩ := h; exact ⟨cs, h1, repVs_mono hE _ _ h2⟩
  | .agg l, v, h => by simp only [repV] at h ⊢; obtain ⟨cs, h1, h2⟩ := h; exact ⟨cs, h1, repC_mono hE _ _ h2⟩
  | .big _ _, v, h => by simp only [repV] at h
  | .tup l, v, h => by simp only [repV] at h ⊢; obtain ⟨cs, h1, h2⟩ := h; exact ⟨cs, h1, repVs_mono hE _ _ h2⟩
theorem repVs_mono {E E' : Emb} (hE : EmbLe E E') : ∀ (l : List V) (vs : List Value), repVs E l vs → repVs E' l vs
  | [], _, h => by simpa [repVs] using h
  | x :: t, vs, h => by
    simp only [repVs] at h ⊢; obtain ⟨u, us, h1, h2, h3⟩ := h
    exact ⟨u, us, h1, repV_mono hE x u h2, repVs_mono hE t us h3⟩
theorem repC_mono {E E' : Emb} (hE : EmbLe E E') : ∀ (l : List V) (vs : List Value), repC E l vs → repC E' l vs
  | [], _, h => by simpa [repC] using h
  | x :: t, vs, h => by
    simp only [repC] at h ⊢
    rcases h with ⟨n, l, xs, ys, h1, h2, h3, h4, h5, h6⟩ | ⟨u, us, h1, h2, h3, h4⟩
    · exact .inl ⟨n, l, xs, ys, h1, h2, h3, h4, repDs_mono hE.2.2 _ _ h5, repC_mono hE t ys h6⟩
    · exact .inr ⟨u, us, h1, h2, repV_mono hE x u h3, repC_mono hE t us h4⟩
end

/-- A key, or a value of a map: one value, or cells. -/
def repKV (H : Nat → Option Obj) (agg : Bool) (l : List D) (v : Value) : Prop :=
  match agg with
  | false => ∃ d, l = [d] ∧ repD H d v
  | true => ∃ cs, v = .agg cs ∧ cs.size = l.length ∧ repDs H l cs.toList ∧ ∀ x ∈ cs.toList, x.oneCell' = true
def repE (H : Nat → Option Obj) (ka va : Bool) : List (List D × List D) → List MapEntry → Prop
  | [], es => es = []
  | p :: t, es => ∃ e r, es = e :: r ∧ repKV H ka p.1 e.key ∧ repKV H va p.2 e.val ∧ repE H ka va t r
/-- A map's entries, in the order in which they were made. -/
def repM (H : Nat → Option Obj) (ka va : Bool) (l : List (List D × List D)) (es : Array MapEntry) (ck : Nat) : Prop :=
  repE H ka va l es.toList ∧ (es.toList.map MapEntry.born).Nodup ∧ ∀ e ∈ es.toList, e.born < ck
theorem repKV_mono {H H' : Nat → Option Obj} (hH : ∀ b o, H b = some o → H' b = some o) {agg : Bool} {l : List D} {v : Value} (h : repKV H agg l v) : repKV H' agg l v := by
  cases agg with
  | false => obtain ⟨d, h1, h2⟩ := h; exact ⟨d, h1, repD_mono hH _ _ h2⟩
  | true => obtain ⟨cs, h1, h2, h3, h4⟩ := h; exact ⟨cs, h1, h2, repDs_mono hH _ _ h3, h4⟩
theorem repE_mono {H H' : Nat → Option Obj} (hH : ∀ b o, H b = some o → H' b = some o) {ka va : Bool} : ∀ (l : List (List D × List D)) (es : List MapEntry), repE H ka va l es → repE H' ka va l es
  | [], es, h => h
  | p :: t, es, ⟨e, r, h1, h2, h3, h4⟩ => ⟨e, r, h1, repKV_mono hH h2, repKV_mono hH h3, repE_mono hH t r h4⟩
theorem repM_mono {H H' : Nat → Option Obj} (hH : ∀ b o, H b = some o → H' b = some o) {ka va : Bool} {l : List (List D × List D)} {es : Array MapEntry} {ck : Nat} (h : repM H ka va l es ck) : repM H' ka va l es ck :=
  ⟨repE_mono hH _ _ h.1, h.2⟩

def BlkOK (E : Emb) (i : Nat) (w : World) : Blk → Prop
  | .row l k e => (E.ρ i = some none ∧ l = []) ∨ ∃ b c, E.ρ i = some (some b) ∧ w.heap[b]? = some (.cells c e (0, 0)) ∧ c.size = E.κ i ∧ (∀ x ∈ c.toList, x.oneCell' = true) ∧ repDs E.H l c.toList
  | .box l => ∃ b c e, E.ρ i = some (some b) ∧ w.heap[b]? = some (.cells c e (0, 0)) ∧ repC E l c.toList
  | .mp ka va l => ∃ b es ck, E.ρ i = some (some b) ∧ w.heap[b]? = some (.map es ck) ∧ repM E.H ka va l es ck
  | .mb ka va l ck => ∃ b es, E.ρ i = some (some b) ∧ w.heap[b]? = some (.map es ck) ∧ repM E.H ka va (l.map Prod.snd) es ck ∧ es.toList.map MapEntry.born = l.map Prod.fst
  | .it mid seen ck => ∃ b m, E.ρ i = some (some b) ∧ E.ρ mid = some (some m) ∧ w.heap[b]? = some (.mapIter (some m) ck seen.toArray ck)
  | .dead => True

def Blk.live : Blk → Bool
  | .dead => false
  | _ => true

/-- Of what was there, only the blocks M may have been written. -/
structure Frame' (w0 : World) (M : Nat → Prop) (w : World) : Prop where
  os : w.os = w0.os
  tape : w.tape = w0.tape
  output : w.output = w0.output
  size : w0.heap.size ≤ w.heap.size
  block : ∀ k, k < w0.heap.size → ¬ M k → w.heap[k]? = w0.heap[k]?
  drawn : w0.drawn ≤ w.drawn

structure WR (w0 : World) (M : Nat → Prop) (E : Emb) (aw : List (Nat × Blk)) (n : Nat) (w : World) : Prop where
  blk : ∀ i b, look aw i = some b → BlkOK E i w b
  ro : ∀ b o, E.H b = some o → w.heap[b]? = some o
  inj : ∀ i j b x y, look aw i = some x → x.live = true → look aw j = some y → y.live = true → E.ρ i = some (some b) → E.ρ j = some (some b) → i = j
  dom : ∀ i b, E.ρ i = some (some b) → b < w.heap.size ∧ (w0.heap.size ≤ b ∨ M b)
  own : ∀ i y b, look aw i = some y → y.live = true → E.ρ i = some (some b) → E.H b = none
  none_n : E.ρ n = none
  frame : Frame' w0 M w

def EnvOK (E : Emb) (env : List (Nat × V)) (tmps : Array Value) : Prop :=
  ∀ t v, look env t = some v → ∃ x, tmps[t]? = some x ∧ repV E v x

structure R (w0 : World) (M : Nat → Prop) (H0 : Emb) (E : Emb) (st : St) (a : Act) (w : World) : Prop where
  env : EnvOK E st.env a.tmps
  wr : WR w0 M E st.aw st.n w
  lt : ∀ i x, E.ρ i = some x → i < st.n
  hle : EmbLe H0 E
  hnew : ∀ b o, E.H b = some o → H0.H b = some o ∨ w0.heap.size ≤ b ∨ M b
  sz : a.tmps.size = st.sz
  dfs : a.defers = []

def dstOk (st : St) : Option Nat → Bool
  | none => true
  | some d => Nat.blt d st.sz

def St.put (st : St) (dst : Option Nat) (v : V) : St :=
  match dst with
  | none => st
  | some d => { st with env := (d, v) :: st.env }

def St.app (st : St) (dst : Option Nat) (r : Res) : St :=
  match dst with
  | none => ⟨st.env, r.wr ++ st.aw, Nat.succ (Nat.add st.n r.dn), st.sz⟩
  | some d => ⟨(d, r.val) :: st.env, r.wr ++ st.aw, Nat.succ (Nat.add st.n r.dn), st.sz⟩

theorem look_cons {α : Type} (a : Nat) (x : α) (t : List (Nat × α)) (k : Nat) : look ((a, x) :: t) k = if a = k then some x else look t k := by
  simp only [look]
  by_cases h : a = k
  · subst h; simp
  · have : Nat.beq a k = false := by
      cases hb : Nat.beq a k with
      | false => rfl
      | true => exact absurd (Nat.eq_of_beq_eq_true hb) h
    simp [this, h]

theorem look_append {α : Type} (s t : List (Nat × α)) (k : Nat) : look (s ++ t) k = (match look s k with | some x => some x | none => look t k) := by
  induction s with
  | nil => rfl
  | cons p s ih =>
    obtain ⟨a, x⟩ := p
    rw [List.cons_append, look_cons, look_cons]
    split
    · rfl
    · exact ih

theorem EnvOK.put {E E' : Emb} {env : List (Nat × V)} {a : Act} {d : Nat} {x : V} {v : Value} (h : EnvOK E env a.tmps) (hE : EmbLe E E') (hd : d < a.tmps.size) (hv : repV E' x v) :
    EnvOK E' ((d, x) :: env) (a.put (some d) v).tmps := by
  intro t y hy
  rw [look_cons] at hy
  split at hy
  · rename_i e
    subst e
    cases hy
    exact ⟨v, by simp [Act.put, hd], hv⟩
  · rename_i e
    obtain ⟨u, hu, hr⟩ := h t y hy
    exact ⟨u, by simp [Act.put, Array.getElem?_setIfInBounds_ne e, hu], repV_mono hE _ _ hr⟩

theorem EnvOK.mono {E E' : Emb} {env : List (Nat × V)} {tmps : Array Value} (h : EnvOK E env tmps) (hE : EmbLe E E') : EnvOK E' env tmps :=
  fun t y hy => let ⟨u, hu, hr⟩ := h t y hy; ⟨u, hu, repV_mono hE _ _ hr⟩

structure GrownS (w w' : World) (S : Nat → Prop) : Prop where
  os : w'.os = w.os
  tape : w'.tape = w.tape
  output : w'.output = w.output
  size : w.heap.size ≤ w'.heap.size
  block : ∀ k, k < w.heap.size → ¬ S k → w'.heap[k]? = w.heap[k]?
  drawn : w.drawn ≤ w'.drawn

theorem GrownS.of {w w' : World} {row : Option Nat} (h : w.grownBy w' row) (hd : w.drawn ≤ w'.drawn := by first | assumption | exact Nat.le_refl _ | exact Nat.le_succ _ | exact Nat.le_add_right _ _) : GrownS w w' (fun k => row = some k) :=
  ⟨h.os, h.tape, h.output, h.size, fun k hk hn => h.block k hk (fun e => hn e.symm), hd⟩

/-- What an operation came to: a new embedding, a world, a value. -/
structure Did (aw : List (Nat × Blk)) (E : Emb) (n : Nat) (w : World) (r : Res) (E' : Emb) (w' : World) (v : Value) : Prop where
  le : EmbLe E E'
  h : ∀ b o, E'.H b = some o → E.H b = some o ∨ (w'.heap[b]? = some o ∧ (w.heap.size ≤ b ∨ ∃ i y, E.ρ i = some (some b) ∧ look aw i = some y ∧ y.live = true))
  new : ∀ i x, E'.ρ i = some x → E.ρ i = some x ∨ (n ≤ i ∧ i < n + r.dn ∧ ∀ b, x = some b → (w.heap.size ≤ b ∧ b < w'.heap.size) ∨ ∃ j, E.ρ j = some (some b))
  own : ∀ i y b, look (r.wr ++ aw) i = some y → y.live = true → E'.ρ i = some (some b) → E'.H b = none
  inj : ∀ i j b x y, look (r.wr ++ aw) i = some x → x.live = true → look (r.wr ++ aw) j = some y → y.live = true → E'.ρ i = some (some b) → E'.ρ j = some (some b) → i = j
  grown : ∃ S, GrownS w w' S ∧ ∀ k, S k → ∃ i y, E.ρ i = some (some k) ∧ look aw i = some y ∧ y.live = true ∧ (look r.wr i).isSome
  wr : ∀ i b, look r.wr i = some b → BlkOK E' i w' b
  val : repV E' r.val v

theorem BlkOK.keep {E E' : Emb} {i : Nat} {w w' : World} {b : Blk} (h : BlkOK E i w b) (hE : EmbLe E E') (hb : ∀ k, E.ρ i = some (some k) → w'.heap[k]? = w.heap[k]?) : BlkOK E' i w' b := by
  cases b with
  | row l k e =>
    rcases h with ⟨h1, h2⟩ | ⟨b, c, h1, h2, h3, h4, h5⟩
    · exact .inl ⟨hE.1 _ _ h1, h2⟩
    · exact .inr ⟨b, c, hE.1 _ _ h1, by rw [hb b h1]; exact h2, h3.trans (hE.2.1 _ _ h1).symm, h4, repDs_mono hE.2.2 _ _ h5⟩
  | box l =>
    obtain ⟨b, c, e, h1, h2, h3⟩ := h
    exact ⟨b, c, e, hE.1 _ _ h1, by rw [hb b h1]; exact h2, repC_mono hE _ _ h3⟩
  | mp ka va l =>
    obtain ⟨b, c, e, h1, h2, h3⟩ := h
    exact ⟨b, c, e, hE.1 _ _ h1, by rw [hb b h1]; exact h2, repM_mono hE.2.2 h3⟩
  | mb ka va l ck =>
    obtain ⟨b, c, h1, h2, h3, h4⟩ := h
    exact ⟨b, c, hE.1 _ _ h1, by rw [hb b h1]; exact h2, repM_mono hE.2.2 h3, h4⟩
  | it mid seen ck =>
    obtain ⟨b, m, h1, h2, h3⟩ := h
    exact ⟨b, m, hE.1 _ _ h1, hE.1 _ _ h2, by rw [hb b h1]; exact h3⟩
  | dead => trivial

theorem WR.app {w0 : World} {M : Nat → Prop} {E E' : Emb} {aw : List (Nat × Blk)} {n N : Nat} {w w' : World} {r : Res} {v : Value}
    (hW : WR w0 M E aw n w) (h : Did aw E n w r E' w' v) (hN : E'.ρ N = none) : WR w0 M E' (r.wr ++ aw) N w' := by
  obtain ⟨S, hg, hrow⟩ := h.grown
  refine ⟨?_, ?_, h.inj, ?_, h.own, hN, ?_⟩
  · intro i b hb
    rw [look_append] at hb
    cases hl : look r.wr i with
    | some x => rw [hl] at hb; cases hb; exact h.wr i b hl
    | none =>
      rw [hl] at hb
      cases hlv : b.live with
      | false => cases b <;> first | trivial | cases hlv
      | true =>
      refine (hW.blk i b hb).keep h.le fun k hk => ?_
      refine hg.block k (hW.dom i k hk).1 fun e => ?_
      obtain ⟨j, y, hj, hy, hyl, hs⟩ := hrow k e
      have := hW.inj i j k b y hb hlv hy hyl hk hj
      subst this
      simp [hl] at hs
  · intro b o hb
    rcases h.h b o hb with hb | ⟨hb, _⟩
    · have := hW.ro b o hb
      rw [hg.block b (Array.getElem?_eq_some_iff.1 this).1 fun e => ?_]
      · exact this
      · obtain ⟨j, y, hj, hy, hyl, _⟩ := hrow b e
        have := hW.own j y b hy hyl hj
        rw [hb] at this; cases this
    · exact hb
  · intro i b hb
    rcases h.new i _ hb with ho | ⟨_, _, hn⟩
    · obtain ⟨h2, h3⟩ := hW.dom i b ho
      exact ⟨Nat.lt_of_lt_of_le h2 hg.size, h3⟩
    · rcases hn b rfl with ⟨h1, h2⟩ | ⟨j, hj⟩
      case inr =>
        obtain ⟨h2, h3⟩ := hW.dom j b hj
        exact ⟨Nat.lt_of_lt_of_le h2 hg.size, h3⟩
      exact ⟨h2, .inl (Nat.le_trans hW.frame.size h1)⟩
  · have f := hW.frame
    refine ⟨hg.os.trans f.os, hg.tape.trans f.tape, hg.output.trans f.output, Nat.le_trans f.size hg.size, fun k hk hM => ?_, Nat.le_trans f.drawn hg.drawn⟩
    rw [hg.block k (Nat.lt_of_lt_of_le hk f.size) fun e => ?_]
    · exact f.block k hk hM
    · obtain ⟨j, _, hj, _⟩ := hrow k e
      rcases (hW.dom j k hj).2 with h1 | h1
      · omega
      · exact hM h1

theorem R.app {w0 : World} {M : Nat → Prop} {H0 : Emb} {E E' : Emb} {st : St} {a : Act} {w w' : World} {r : Res} {v : Value} {dst : Option Nat}
    (hR : R w0 M H0 E st a w) (hd : dstOk st dst = true) (h : Did st.aw E st.n w r E' w' v) : R w0 M H0 E' (st.app dst r) (a.put dst v) w' := by
  have hlt : ∀ i x, E'.ρ i = some x → i < Nat.succ (Nat.add st.n r.dn) := by
    intro i x hx
    show i < st.n + r.dn + 1
    rcases h.new i x hx with ho | ⟨_, h2, _⟩
    · have := hR.lt i x ho; omega
    · omega
  have hhle : EmbLe H0 E' := hR.hle.trans h.le
  have hhnew : ∀ b o, E'.H b = some o → H0.H b = some o ∨ w0.heap.size ≤ b ∨ M b := by
    intro b o hb
    rcases h.h b o hb with h1 | ⟨_, h1 | ⟨i, y, h1, _⟩⟩
    · exact hR.hnew b o h1
    · exact .inr (.inl (Nat.le_trans hR.wr.frame.size h1))
    · exact .inr (hR.wr.dom i b h1).2
  have hwr : WR w0 M E' (r.wr ++ st.aw) (Nat.succ (Nat.add st.n r.dn)) w' := by
    refine hR.wr.app h ?_
    cases hx : E'.ρ (Nat.succ (Nat.add st.n r.dn)) with
    | none => rfl
    | some x => exact absurd (hlt _ x hx) (Nat.lt_irrefl _)
  cases dst with
  | none => exact ⟨hR.env.mono h.le, hwr, hlt, hhle, hhnew, hR.sz, hR.dfs⟩
  | some d =>
    have hd' : d < a.tmps.size := by rw [hR.sz]; simpa [dstOk] using hd
    exact ⟨hR.env.put h.le hd' h.val, hwr, hlt, hhle, hhnew, by show (a.put (some d) v).tmps.size = _; simp [Act.put, hR.sz, St.app], hR.dfs⟩
end Go.AX

namespace Go.AX
set_option autoImplicit false
set_option linter.unusedVariables false

theorem repDs_len {H : Nat → Option Obj} : ∀ (l : List D) (vs : List Value), repDs H l vs → l.length ≤ vs.length
  | [], _, _ => by simp
  | d :: t, vs, h => by
    simp only [repDs] at h
    obtain ⟨u, us, rfl, _, h2⟩ := h
    have := repDs_len t us h2
    simp; omega

theorem repDs_get {H : Nat → Option Obj} : ∀ (l : List D) (vs : List Value), repDs H l vs → ∀ (i : Nat) (d : D), l[i]? = some d → ∃ u, vs[i]? = some u ∧ repD H d u
  | [], _, _ => by simp
  | d :: t, vs, h => by
    simp only [repDs] at h
    obtain ⟨u, us, rfl, h1, h2⟩ := h
    intro i x hx
    cases i with
    | zero => simp at hx; subst hx; exact ⟨u, by simp, h1⟩
    | succ i => simp at hx; simpa using repDs_get t us h2 i x hx

theorem repDs_of_get {H : Nat → Option Obj} : ∀ (l : List D) (vs : List Value), (∀ (i : Nat) (d : D), l[i]? = some d → ∃ u, vs[i]? = some u ∧ repD H d u) → repDs H l vs
  | [], _, _ => trivial
  | d :: t, vs, h => by
    obtain ⟨u, hu, hr⟩ := h 0 d (by simp)
    cases vs with
    | nil => simp at hu
    | cons u' us =>
      simp at hu; subst hu
      simp only [repDs]
      exact ⟨_, us, rfl, hr, repDs_of_get t us fun i x hx => by simpa using h (i + 1) x (by simpa using hx)⟩

theorem repDs_drop {H : Nat → Option Obj} {l : List D} {vs : List Value} (h : repDs H l vs) (n : Nat) : repDs H (l.drop n) (vs.drop n) :=
  repDs_of_get _ _ fun i d hd => by
    rw [List.getElem?_drop] at hd ⊢
    exact repDs_get _ _ h _ _ hd

theorem repDs_take {H : Nat → Option Obj} {l : List D} {vs : List Value} (h : repDs H l vs) (n : Nat) : repDs H (l.take n) (vs.take n) :=
  repDs_of_get _ _ fun i d hd => by
    rw [List.getElem?_take] at hd ⊢
    split at hd
    · rename_i hi; rw [if_pos hi]; exact repDs_get _ _ h _ _ hd
    · cases hd

theorem repDs_pre {H : Nat → Option Obj} {l : List D} {vs us : List Value} (h : repDs H l vs) : repDs H l (vs ++ us) :=
  repDs_of_get _ _ fun i d hd => by
    obtain ⟨u, hu, hr⟩ := repDs_get _ _ h i d hd
    exact ⟨u, by rw [List.getElem?_append_left (List.getElem?_eq_some_iff.1 hu).1]; exact hu, hr⟩

theorem repDs_app {H : Nat → Option Obj} : ∀ {l m : List D} {vs us : List Value}, repDs H l vs → l.length = vs.length → repDs H m us → repDs H (l ++ m) (vs ++ us)
  | [], m, vs, us, _, hl, h2 => by
    have : vs = [] := List.eq_nil_of_length_eq_zero (by simpa using hl.symm)
    subst this; simpa using h2
  | d :: t, m, vs, us, h, hl, h2 => by
    simp only [repDs] at h
    obtain ⟨u, us', rfl, h3, h4⟩ := h
    simp only [List.cons_append, repDs]
    exact ⟨u, _, rfl, h3, repDs_app h4 (by simpa using hl) h2⟩

theorem repD_one {H : Nat → Option Obj} : ∀ (d : D) (v : Value), repD H d v → v.oneCell' = true
  | .int _ _, v, h => by simp only [repD] at h; subst h; rfl
  | .bool _, v, h => by simp only [repD] at h; subst h; rfl
  | .str _, v, h => by simp only [repD] at h; subst h; rfl
  | .nils, v, h => by simp only [repD] at h; subst h; rfl
  | .lit _, v, h => by simp only [repD] at h; obtain ⟨rfl, h⟩ := h; exact h
  | .lst _ _, v, h => by simp only [repD] at h; obtain ⟨a, cap, rfl, _⟩ := h; rfl

theorem repC_len {E : Emb} : ∀ (l : List V) (cs : List Value), repC E l cs → cs.length = szs l
  | [], cs, h => by simp only [repC] at h; subst h; rfl
  | x :: t, cs, h => by
    simp only [repC] at h
    rcases h with ⟨n, l, xs, ys, rfl, rfl, h3, h4, h5, h6⟩ | ⟨u, us, rfl, h2, h3, h4⟩
    · have := repC_len t ys h6
      show _ = V.sz (.big n l) + szs t
      simp [V.sz, h3, this]
    · have := repC_len t us h4
      have hx : x.sz = 1 := by cases x <;> first | rfl | (simp only [repV] at h3)
      show _ = x.sz + szs t
      simp [hx, this]; omega

theorem repC_one {E : Emb} : ∀ (l : List V) (cs : List Value), repC E l cs → ∀ x ∈ cs, x.oneCell' = true
  | [], cs, h => by simp only [repC] at h; subst h; simp
  | x :: t, cs, h => by
    simp only [repC] at h
    rcases h with ⟨n, l, xs, ys, rfl, rfl, h3, h4, h5, h6⟩ | ⟨u, us, rfl, h2, h3, h4⟩
    · intro y hy
      rcases List.mem_append.1 hy with hy | hy
      · obtain ⟨i, hi⟩ := List.mem_iff_getElem?.1 hy
        have hil : i < l.length := by have := (List.getElem?_eq_some_iff.1 hi).1; omega
        obtain ⟨u, hu, hr⟩ := repDs_get _ _ h5 i l[i] (by simp [hil])
        rw [hi] at hu; cases hu
        exact repD_one _ _ hr
      · exact repC_one t ys h6 y hy
    · intro y hy
      rcases List.mem_cons.1 hy with rfl | hy
      · exact h2
      · exact repC_one t us h4 y hy

theorem repC_cons {E : Emb} {x : V} {t : List V} {cs : List Value} : repC E (x :: t) cs ↔ ∃ xs ys, cs = xs ++ ys ∧ xs.length = x.sz ∧ repC E [x] xs ∧ repC E t ys := by
  constructor
  · intro h
    simp only [repC] at h
    rcases h with ⟨n, l, xs, ys, rfl, rfl, h3, h4, h5, h6⟩ | ⟨u, us, rfl, h2, h3, h4⟩
    · exact ⟨xs, ys, rfl, h3, by simp only [repC]; exact .inl ⟨n, l, xs, [], rfl, by simp, h3, h4, h5, rfl⟩, h6⟩
    · have hx : x.sz = 1 := by cases x <;> first | rfl | (simp only [repV] at h3)
      exact ⟨[u], us, rfl, by simp [hx], by simp only [repC]; exact .inr ⟨u, [], rfl, h2, h3, rfl⟩, h4⟩
  · rintro ⟨xs, ys, rfl, hl, h1, h2⟩
    simp only [repC] at h1 ⊢
    rcases h1 with ⟨n, l, xs', ys', rfl, rfl, h3, h4, h5, rfl⟩ | ⟨u, us, rfl, h3, h4, rfl⟩
    · exact .inl ⟨n, l, xs', ys, rfl, by simp, h3, h4, h5, h2⟩
    · exact .inr ⟨u, ys, rfl, h3, h4, h2⟩

theorem cut_rep {E : Emb} : ∀ (l : List V) (o n : Nat) (c : List V), cut l o n = some c → ∀ cs, repC E l cs → o + n ≤ cs.length ∧ repC E c ((cs.drop o).take n) := by
  intro l o n
  fun_induction cut l o n with
  | case1 l => intro c h cs hc; cases h; simp [repC]
  | case2 o n hn => intro c h; cases h
  | case3 v t n hn hb r hr ih =>
    intro c h cs hc
    cases h
    obtain ⟨xs, ys, rfl, hl, h1, h2⟩ := repC_cons.1 hc
    obtain ⟨h3, h4⟩ := ih r hr ys h2
    have hb' : v.sz ≤ n := Nat.le_of_ble_eq_true hb
    simp only [Nat.sub_eq, List.drop_zero, Nat.zero_add, List.length_append] at *
    refine ⟨by omega, repC_cons.2 ⟨xs, ys.take (n - v.sz), ?_, hl, h1, h4⟩⟩
    rw [List.take_append, List.take_of_length_le (by omega), hl]
  | case4 => intro c h; cases h
  | case5 => intro c h; cases h
  | case6 v t o n hn ho hb ih =>
    intro c h cs hc
    obtain ⟨xs, ys, rfl, hl, h1, h2⟩ := repC_cons.1 hc
    obtain ⟨h3, h4⟩ := ih c h ys h2
    have hb' : v.sz ≤ o := Nat.le_of_ble_eq_true hb
    simp only [Nat.sub_eq, List.length_append] at *
    refine ⟨by omega, ?_⟩
    rw [List.drop_append, List.drop_of_length_le (by omega), hl, List.nil_append]
    exact h4
  | case7 => intro c h; cases h

theorem splice_rep {E : Emb} : ∀ (l : List V) (o : Nat) (c : List V) (l' : List V), splice l o c = some l' → ∀ cs us, repC E l cs → repC E c us →
    o + us.length ≤ cs.length ∧ repC E l' (cs.take o ++ us ++ cs.drop (o + us.length)) := by
  intro l o c
  fun_induction splice l o c with
  | case1 l =>
    intro l' h cs us hc hu
    cases h
    simp only [repC] at hu; subst hu
    simpa using hc
  | case2 => intro l' h; cases h
  | case3 v t c cs hb r hr ih =>
    intro l' h ws us hc hu
    cases h
    obtain ⟨xs, ys, rfl, hl, h1, h2⟩ := repC_cons.1 hc
    obtain ⟨xs', ys', rfl, hl', h1', h2'⟩ := repC_cons.1 hu
    obtain ⟨h3, h4⟩ := ih r hr ys ys' h2 h2'
    have hb' : v.sz = c.sz := Nat.eq_of_beq_eq_true hb
    simp only [Nat.zero_add, List.take_zero, List.nil_append, List.length_append] at *
    refine ⟨by omega, repC_cons.2 ⟨xs', ys' ++ ys.drop ys'.length, ?_, hl', h1', h4⟩⟩
    rw [List.append_assoc, List.drop_append, List.drop_of_length_le (by omega), List.nil_append]
    congr 3
    omega
  | case4 => intro l' h; cases h
  | case5 => intro l' h; cases h
  | case6 v t o cs hn hx hb r hr ih =>
    intro l' h ws us hc hu
    cases h
    obtain ⟨xs, ys, rfl, hl, h1, h2⟩ := repC_cons.1 hc
    obtain ⟨h3, h4⟩ := ih r hr ys us h2 hu
    have hb' : v.sz ≤ o := Nat.le_of_ble_eq_true hb
    simp only [Nat.sub_eq, List.length_append] at *
    refine ⟨by omega, repC_cons.2 ⟨xs, _, ?_, hl, h1, h4⟩⟩
    rw [List.take_append, List.take_of_length_le (by omega), List.drop_append, List.drop_of_length_le (by omega), hl, List.nil_append]
    simp only [List.append_assoc]
    congr 4
    omega
  | case7 => intro l' h; cases h
  | case8 => intro l' h; cases h

theorem nl_rep {H : Nat → Option Obj} {x : D} {v : Value} (h : repD H x v) : repD H x.nl v := by
  cases x
  case nils =>
    simp only [repD, D.nl] at h ⊢
    exact ⟨none, 0, h, Nat.le_refl _, by simp⟩
  all_goals exact h
theorem plainK_rep {E : Emb} : ∀ (l : List V) (r ds : List D), plainK std l r = some ds → ∀ cs us, repC E l cs → repDs E.H r us → r.length = us.length → repDs E.H ds (cs ++ us) ∧ ds.length = cs.length + us.length
  | [], r, ds, h => by
    intro cs us hc hr hl
    cases h
    simp only [repC] at hc; subst hc
    exact ⟨hr, by simp [hl]⟩
  | v :: t, r, ds, h => by
    intro cs us hc hr hl
    cases v
    case d x =>
      simp only [plainK] at h
      split at h
      · rename_i q hq
        cases h
        simp only [repC] at hc
        rcases hc with ⟨n, l, xs, ys, h1, _⟩ | ⟨u, vs, rfl, h2, h3, h4⟩
        · cases h1
        · obtain ⟨h5, h6⟩ := plainK_rep t r q hq vs us h4 hr hl
          simp only [repV] at h3
          exact ⟨⟨u, vs ++ us, rfl, nl_rep h3, h5⟩, by simp [h6]; omega⟩
      · cases h
    case big n l =>
      simp only [plainK] at h
      split at h
      · rename_i q hq
        cases h
        simp only [repC] at hc
        rcases hc with ⟨m, l', xs, ys, h1, rfl, h2, h3, h4, h5⟩ | ⟨u, vs, _, _, h3, _⟩
        · cases h1
          obtain ⟨h6, h7⟩ := plainK_rep t r q hq ys us h5 hr hl
          refine ⟨?_, ?_⟩
          · rw [List.append_assoc]; exact repDs_app h4 (by omega) h6
          · show (l ++ q).length = _
            rw [List.length_append, h7, List.length_append]; omega
        · simp only [repV] at h3
      · cases h
    all_goals (simp only [plainK] at h; cases h)
theorem plain_rep {E : Emb} (l : List V) (ds : List D) (h : plain std l = some ds) (cs : List Value) (hc : repC E l cs) : repDs E.H ds cs ∧ ds.length = cs.length := by
  have := plainK_rep l [] ds h cs [] hc (by simp [repDs]) rfl
  simpa using this

theorem flatD_rep {E : Emb} {l : List V} {ds : List D} (h : flatD std l = some ds) {cs : List Value} (hc : repC E l cs) : repDs E.H ds cs ∧ ds.length = cs.length := by
  unfold flatD at h
  split at h
  · cases h
    simp only [repC] at hc
    rcases hc with ⟨n, l, xs, ys, h1, h2, h3, h4, h5, h6⟩ | ⟨u, us, h1, h2, h3, h4⟩
    · cases h1; subst h6; subst h2; simp only [List.append_nil]; exact ⟨h5, by omega⟩
    · simp only [repV] at h3
  · exact plain_rep _ _ h _ hc

/-- Plain data as cells. -/
theorem repC_of_plain {E : Emb} : ∀ (ds : List D) (cs : List Value), repDs E.H ds cs → ds.length = cs.length → repC E (ds.map .d) cs
  | [], cs, _, hl => by
    have : cs = [] := List.eq_nil_of_length_eq_zero (by simpa using hl.symm)
    subst this; simp [repC]
  | d :: t, cs, h, hl => by
    simp only [repDs] at h
    obtain ⟨u, us, rfl, h1, h2⟩ := h
    simp only [List.map_cons, repC]
    exact .inr ⟨u, us, rfl, repD_one _ _ h1, by simp only [repV]; exact h1, repC_of_plain t us h2 (by simpa using hl)⟩

theorem rdLs_rep {E : Emb} {cells : List D} {off : Nat} {ws : List Value} (hw : repDs E.H cells ws) : ∀ (ls : List Leaf) (p : Nat) (c : List V) (s : Prop), rdLs std cells off ls p = some (c, s) → s →
    repC E c ((ws.drop (off + p)).take (szs c)) := by
  have one : ∀ (p : Nat) (d : D) (r : List V), cells[off + p]? = some d → repC E r ((ws.drop (off + (p + 1))).take (szs r)) → repC E (.d d :: r) ((ws.drop (off + p)).take (szs (.d d :: r))) := by
    intro p d r hd hr
    obtain ⟨u, hu, h1⟩ := repDs_get _ _ hw _ _ hd
    have hlt := (List.getElem?_eq_some_iff.1 hu).1
    refine repC_cons.2 ⟨[u], (ws.drop (off + (p + 1))).take (szs r), ?_, rfl, ?_, hr⟩
    · show List.take (1 + szs r) _ = _
      rw [List.drop_eq_getElem_cons hlt, show 1 + szs r = szs r + 1 by omega, List.take_succ_cons]
      have := (List.getElem?_eq_some_iff.1 hu).2
      rw [this]; rfl
    · simp only [repC]
      exact .inr ⟨u, [], rfl, repD_one _ _ h1, by simp only [repV]; exact h1, rfl⟩
  intro ls
  induction ls with
  | nil =>
    intro p c s h hs
    simp only [rdLs, Option.some.injEq, Prod.mk.injEq] at h
    obtain ⟨rfl, _⟩ := h
    simp [repC, szs]
  | cons l t ih =>
    intro p c s h hs
    cases l with
    | int k =>
      simp only [rdLs] at h
      split at h
      · rename_i r s' hr
        simp only [Option.some.injEq, Prod.mk.injEq] at h
        obtain ⟨rfl, rfl⟩ := h
        exact one p _ r hs.1 (ih _ _ _ hr hs.2)
      · cases h
    | bool =>
      simp only [rdLs] at h
      split at h
      · rename_i r s' hr
        simp only [Option.some.injEq, Prod.mk.injEq] at h
        obtain ⟨rfl, rfl⟩ := h
        exact one p _ r hs.1 (ih _ _ _ hr hs.2)
      · cases h
    | slc k =>
      simp only [rdLs] at h
      split at h
      · rename_i r s' hr
        simp only [Option.some.injEq, Prod.mk.injEq] at h
        obtain ⟨rfl, rfl⟩ := h
        exact one p _ r hs.1 (ih _ _ _ hr hs.2)
      · cases h
    | lit v => simp only [rdLs] at h; cases h
    | big n k =>
      simp only [rdLs] at h
      split at h
      · rename_i r s' hr
        simp only [Option.some.injEq, Prod.mk.injEq] at h
        obtain ⟨rfl, rfl⟩ := h
        obtain ⟨h1, h2⟩ := hs
        have h1 : off + p + n ≤ cells.length := h1
        have hl := repDs_len _ _ hw
        refine repC_cons.2 ⟨(ws.drop (off + p)).take n, (ws.drop (off + (p + n))).take (szs r), ?_, by simp [V.sz]; omega, ?_, ih _ _ _ hr h2⟩
        · show List.take (n + szs r) _ = _
          rw [List.take_add, List.drop_drop, Nat.add_assoc]
        · simp only [repC]
          refine .inl ⟨n, _, (ws.drop (off + p)).take n, [], rfl, by simp, by rw [List.length_take, List.length_drop]; omega, ?_, repDs_take (repDs_drop hw _) _, rfl⟩
          show (List.take n (List.drop (off + p) cells)).length = n
          simp; omega
      · cases h
    | bigB n =>
      simp only [rdLs] at h
      split at h
      · rename_i r s' hr
        simp only [Option.some.injEq, Prod.mk.injEq] at h
        obtain ⟨rfl, rfl⟩ := h
        obtain ⟨h1, h2⟩ := hs
        have h1 : off + p + n ≤ cells.length := h1
        have hl := repDs_len _ _ hw
        refine repC_cons.2 ⟨(ws.drop (off + p)).take n, (ws.drop (off + (p + n))).take (szs r), ?_, by simp [V.sz]; omega, ?_, ih _ _ _ hr h2⟩
        · show List.take (n + szs r) _ = _
          rw [List.take_add, List.drop_drop, Nat.add_assoc]
        · simp only [repC]
          refine .inl ⟨n, _, (ws.drop (off + p)).take n, [], rfl, by simp, by rw [List.length_take, List.length_drop]; omega, ?_, repDs_take (repDs_drop hw _) _, rfl⟩
          show (List.take n (List.drop (off + p) cells)).length = n
          simp; omega
      · cases h

/-- A value out of the cells of its type. -/
theorem asVal_rep {E : Emb} {agg : Bool} {c : List V} {v : V} (h : asVal agg c = some v) {cs : List Value} (hc : repC E c cs) :
    (agg = true ∧ repV E v (.agg cs.toArray)) ∨ (agg = false ∧ ∃ u, cs = [u] ∧ repV E v u) := by
  unfold asVal at h
  cases agg with
  | true =>
    simp only [cond_true, Option.some.injEq] at h
    subst h
    exact .inl ⟨rfl, by simp only [repV]; exact ⟨_, rfl, by simpa using hc⟩⟩
  | false =>
    simp only [cond_false] at h
    refine .inr ⟨rfl, ?_⟩
    split at h
    · cases h
    · cases h
      simp only [repC] at hc
      rcases hc with ⟨n, l, xs, ys, h1, h2, h3, h4, h5, h6⟩ | ⟨u, us, rfl, h2, h3, rfl⟩
      · rename_i hne; exact absurd h1 (hne n l)
      · exact ⟨u, rfl, h3⟩
    · cases h

/-- The cells of a value. -/
theorem cells_rep {E : Emb} {x : V} {v : Value} (h : repV E x v) (hx : ∀ l, x ≠ .tup l) : repC E x.cells v.cells.toList := by
  have one : v.oneCell' = true → x.cells = [x] → repC E x.cells v.cells.toList := by
    intro h1 h2
    rw [h2]
    have : v.cells = #[v] := by cases v <;> first | rfl | (cases h1)
    rw [this]
    simp only [repC]
    exact .inr ⟨v, [], rfl, h1, h, rfl⟩
  cases x with
  | agg l => simp only [repV] at h; obtain ⟨cs, rfl, hc⟩ := h; exact hc
  | tup l => exact absurd rfl (hx l)
  | big n l => simp only [repV] at h
  | d x => simp only [repV] at h; exact one (repD_one _ _ h) rfl
  | own id len k => simp only [repV] at h; refine one ?_ rfl; rcases h with ⟨_, _, rfl⟩ | ⟨_, _, _, rfl, _⟩ <;> rfl
  | slc => simp only [repV] at h; obtain ⟨_, _, _, _, rfl, _⟩ := h; exact one rfl rfl
  | sla => simp only [repV] at h; obtain ⟨_, _, _, _, rfl, _⟩ := h; exact one rfl rfl
  | ptr => simp only [repV] at h; obtain ⟨_, _, rfl⟩ := h; exact one rfl rfl
  | px => simp only [repV] at h; obtain ⟨_, _, _, rfl⟩ := h; exact one rfl rfl
  | pr => simp only [repV] at h; obtain ⟨_, _, rfl⟩ := h; exact one rfl rfl
  | lp => simp only [repV] at h; obtain ⟨_, _, _, _, _, rfl, _⟩ := h; exact one rfl rfl
  | map => simp only [repV] at h; obtain ⟨_, _, rfl⟩ := h; exact one rfl rfl
  | fn => simp only [repV] at h; obtain ⟨_, rfl, _⟩ := h; exact one rfl rfl
end Go.AX

namespace Go.AX
set_option autoImplicit false
set_option linter.unusedVariables false

def leavesSize : List Leaf → Nat
  | [] => 0
  | .big n _ :: t => n + leavesSize t
  | .bigB n :: t => n + leavesSize t
  | _ :: t => 1 + leavesSize t

def litEq : Value → Value → Bool
  | .nilFunc, .nilFunc => true
  | .pointer none, .pointer none => true
  | .map none, .map none => true
  | .nilIface, .nilIface => true
  | _, _ => false

theorem litEq_eq {v u : Value} (h : litEq v u = true) : v = u ∧ v.oneCell' = true := by
  unfold litEq at h
  split at h <;> first | exact ⟨rfl, rfl⟩ | cases h

def isZeroOf (k : IntKind) : Value → Bool
  | .int k' n => decide (k = k') && n == 0
  | _ => false

def isFalse : Value → Bool
  | .bool b => !b
  | _ => false

def isNilS : Value → Bool
  | .slice none 0 0 => true
  | _ => false

def zOk : List Leaf → List Value → Bool
  | [], [] => true
  | .int k :: t, v :: vs => isZeroOf k v && zOk t vs
  | .bool :: t, v :: vs => isFalse v && zOk t vs
  | .slc _ :: t, v :: vs => isNilS v && zOk t vs
  | .lit v :: t, u :: vs => litEq v u && zOk t vs
  | .big n k :: t, vs => decide (n ≤ vs.length) && (vs.take n).all (isZeroOf k) && zOk t (vs.drop n)
  | .bigB n :: t, vs => decide (n ≤ vs.length) && (vs.take n).all isFalse && zOk t (vs.drop n)
  | _, _ => false

theorem isZeroOf_eq {k : IntKind} {v : Value} (h : isZeroOf k v = true) : v = .int k 0 := by
  unfold isZeroOf at h
  split at h
  · simp at h; obtain ⟨rfl, rfl⟩ := h; rfl
  · cases h

theorem isFalse_eq {v : Value} (h : isFalse v = true) : v = .bool false := by
  unfold isFalse at h
  split at h
  · simp at h; rw [h]
  · cases h

theorem isNilS_eq {v : Value} (h : isNilS v = true) : v = .slice none 0 0 := by
  unfold isNilS at h
  split at h
  · rfl
  · cases h

theorem zOk_rep {E : Emb} : ∀ (ls : List Leaf) (vs : List Value), zOk ls vs = true → repC E (zeroL std ls) vs := by
  intro ls
  induction ls with
  | nil => intro vs h; cases vs with | nil => simp [zeroL, repC] | cons => simp [zOk] at h
  | cons l t ih =>
    intro vs h
    have mk : ∀ (x : V) (u : Value) (us : List Value), repV E x u → u.oneCell' = true → repC E (zeroL std t) us → repC E (x :: zeroL std t) (u :: us) := by
      intro x u us h1 h2 h3
      simp only [repC]
      exact .inr ⟨u, us, rfl, h2, h1, h3⟩
    cases l with
    | int k =>
      cases vs with
      | nil => simp [zOk] at h
      | cons v vs =>
        simp only [zOk, Bool.and_eq_true] at h
        rw [isZeroOf_eq h.1]
        exact mk _ _ _ (by simp [repV, repD]) rfl (ih _ h.2)
    | bool =>
      cases vs with
      | nil => simp [zOk] at h
      | cons v vs =>
        simp only [zOk, Bool.and_eq_true] at h
        rw [isFalse_eq h.1]
        exact mk _ _ _ (by simp [repV, repD]) rfl (ih _ h.2)
    | slc k =>
      cases vs with
      | nil => simp [zOk] at h
      | cons v vs =>
        simp only [zOk, Bool.and_eq_true] at h
        rw [isNilS_eq h.1]
        exact mk _ _ _ (by simp [repV, repD]) rfl (ih _ h.2)
    | lit v =>
      cases vs with
      | nil => simp [zOk] at h
      | cons u vs =>
        simp only [zOk, Bool.and_eq_true] at h
        obtain ⟨rfl, h1⟩ := litEq_eq h.1
        exact mk _ _ _ (by simp [repV, repD, h1]) h1 (ih _ h.2)
    | big n k =>
      simp only [zOk, Bool.and_eq_true, decide_eq_true_eq] at h
      obtain ⟨⟨h1, h2⟩, h3⟩ := h
      refine repC_cons.2 ⟨vs.take n, vs.drop n, by simp, by simp [V.sz]; omega, ?_, ih _ h3⟩
      simp only [repC]
      refine .inl ⟨n, _, vs.take n, [], rfl, by simp, by simp; omega, by simp [std], ?_, rfl⟩
      refine repDs_of_get _ _ fun i d hd => ?_
      simp only [std, List.getElem?_replicate] at hd
      split at hd
      · rename_i hi
        cases hd
        have hi' : i < (vs.take n).length := by simp; omega
        refine ⟨(vs.take n)[i], by simp only [List.getElem?_eq_getElem hi'], ?_⟩
        have := isZeroOf_eq (List.all_eq_true.1 h2 _ (List.getElem_mem hi'))
        rw [this]; simp [repD]
      · cases hd
    | bigB n =>
      simp only [zOk, Bool.and_eq_true, decide_eq_true_eq] at h
      obtain ⟨⟨h1, h2⟩, h3⟩ := h
      refine repC_cons.2 ⟨vs.take n, vs.drop n, by simp, by simp [V.sz]; omega, ?_, ih _ h3⟩
      simp only [repC]
      refine .inl ⟨n, _, vs.take n, [], rfl, by simp, by simp; omega, by simp [std], ?_, rfl⟩
      refine repDs_of_get _ _ fun i d hd => ?_
      simp only [std, List.getElem?_replicate] at hd
      split at hd
      · rename_i hi
        cases hd
        have hi' : i < (vs.take n).length := by simp; omega
        refine ⟨(vs.take n)[i], by simp only [List.getElem?_eq_getElem hi'], ?_⟩
        have := isFalse_eq (List.all_eq_true.1 h2 _ (List.getElem_mem hi'))
        rw [this]; simp [repD]
      · cases hd

def isAggD : TypeDesc → Bool
  | .struct _ | .array _ _ => true
  | _ => false

def fsEq : List (Nat × TypeId) → List Field → Bool
  | [], [] => true
  | (o, t) :: r, f :: fs => Nat.beq o f.offset && Nat.beq t f.type && fsEq r fs
  | _, _ => false

def tdOk : TD → TypeDesc → Bool
  | .int k, .int k' => decide (k = k')
  | .bool, .bool => true
  | .slice e, .slice e' => Nat.beq e e'
  | .array n e, .array n' e' => Nat.beq n n' && Nat.beq e e'
  | .struct fs, .struct fields => fsEq fs fields.toList
  | .pointer e, .pointer e' => Nat.beq e e'
  | .map k e, .map k' e' => Nat.beq k k' && Nat.beq e e'
  | .other, _ => true
  | _, _ => false

def zForm (agg : Bool) (z : Value) : Bool := match z with | .agg _ => agg | z => !agg && z.oneCell'

structure TIok (P : Program) (t : TypeId) (ti : TI) : Prop where
  info : ∃ i z d, P.info? t = some i ∧ i.size = ti.size ∧ i.bytes = ti.bytes ∧ i.zero = some z ∧ (∀ E : Emb, repC E (zeroL std ti.leaves) z.cells.toList) ∧ P.underlying t = some d ∧ tdOk ti.td d = true ∧ ti.agg = isAggD d ∧ z.cells.size = ti.size ∧ (∀ fs, d = .struct fs → ∀ f ∈ fs.toList, (P.info? f.type).isSome = true)
  leaves : leavesSize ti.leaves = ti.size
  zform : ∀ i z, P.info? t = some i → i.zero = some z → zForm ti.agg z = true

def okTI (P : Program) (t : TypeId) (ti : TI) : Bool :=
  match P.info? t, P.underlying t with
  | some i, some d => Nat.beq i.size ti.size && Nat.beq i.bytes ti.bytes && (match i.zero with | some z => zOk ti.leaves z.cells.toList && Nat.beq z.cells.size ti.size | none => false) && tdOk ti.td d && (ti.agg == isAggD d) && Nat.beq (leavesSize ti.leaves) ti.size && (match d with | .struct fs => fs.toList.all fun f => (P.info? f.type).isSome | _ => true) && (match i.zero with | some z => zForm ti.agg z | none => false)
  | _, _ => false

theorem okTI_ok {P : Program} {t : TypeId} {ti : TI} (h : okTI P t ti = true) : TIok P t ti := by
  unfold okTI at h
  split at h
  · rename_i i d hi hd
    simp only [Bool.and_eq_true] at h
    obtain ⟨⟨⟨⟨⟨⟨⟨h1, h2⟩, h3⟩, h4⟩, h5⟩, h6⟩, h7⟩, h8⟩ := h
    split at h3
    · rename_i z hz
      simp only [Bool.and_eq_true] at h3
      exact ⟨⟨i, z, d, hi, Nat.eq_of_beq_eq_true h1, Nat.eq_of_beq_eq_true h2, hz, fun E => zOk_rep _ _ h3.1, hd, h4, by simpa using h5, Nat.eq_of_beq_eq_true h3.2, fun fs e f hf => by subst e; exact List.all_eq_true.1 h7 f hf⟩, Nat.eq_of_beq_eq_true h6, fun i' z' hi' hz' => by rw [hi] at hi'; cases hi'; rw [hz'] at h8; exact h8⟩
    · cases h3
  · cases h

def okTT (P : Program) : List (Nat × TI) → Bool
  | [] => true
  | (t, ti) :: r => okTI P t ti && okTT P r

def TTok (P : Program) (tt : TT) : Prop := ∀ t ti, tt t = some ti → TIok P t ti

theorem okTT_ok {P : Program} : ∀ {l : List (Nat × TI)}, okTT P l = true → TTok P (look l)
  | [], _ => fun t ti h => by cases h
  | (t', ti') :: r, h => fun t ti hl => by
    simp only [okTT, Bool.and_eq_true] at h
    rw [look_cons] at hl
    split at hl
    · rename_i e; cases hl; subst e; exact okTI_ok h.1
    · exact okTT_ok h.2 t ti hl

theorem TIok.isAgg {P : Program} {t : TypeId} {ti : TI} (h : TIok P t ti) (w : World) : (Go.isAgg t).run P w = .ok ti.agg w := by
  obtain ⟨⟨i, z, d, hi, hs, hb, hz, hr, hd, htd, hag, _⟩, _⟩ := h
  simp only [Go.isAgg, Sem.run_bind, run_underlying hd, Result.andThen_ok]
  rw [hag]
  cases d <;> rfl

theorem TIok.sizeOf {P : Program} {t : TypeId} {ti : TI} (h : TIok P t ti) (w : World) : (Go.sizeOf t).run P w = .ok ti.size w := by
  obtain ⟨⟨i, z, d, hi, hs, hb, hz, hr, hd, htd, hag, _⟩, _⟩ := h
  simp [Go.sizeOf, typeInfo, hi, hs]

theorem add_lit (b o j : Nat) : (⟨b, o, none⟩ : Addr).add j = ⟨b, o + j, none⟩ := by
  unfold Addr.add; split <;> simp_all

theorem rdLs_size {I : Prims} {cells : List D} {off : Nat} : ∀ (ls : List Leaf) (p : Nat) (c : List V) (s : Prop), rdLs I cells off ls p = some (c, s) → szs c = leavesSize ls := by
  intro ls
  induction ls with
  | nil => intro p c s h; simp only [rdLs, Option.some.injEq, Prod.mk.injEq] at h; obtain ⟨rfl, _⟩ := h; rfl
  | cons l t ih =>
    intro p c s h
    cases l with
    | lit v => simp only [rdLs] at h; cases h
    | big n k =>
      simp only [rdLs] at h
      split at h
      · rename_i r s' hr
        simp only [Option.some.injEq, Prod.mk.injEq] at h
        obtain ⟨rfl, _⟩ := h
        show n + szs r = _
        simp [leavesSize, ih _ _ _ hr]
      · cases h
    | bigB n =>
      simp only [rdLs] at h
      split at h
      · rename_i r s' hr
        simp only [Option.some.injEq, Prod.mk.injEq] at h
        obtain ⟨rfl, _⟩ := h
        show n + szs r = _
        simp [leavesSize, ih _ _ _ hr]
      · cases h
    | _ =>
      simp only [rdLs] at h
      split at h
      · rename_i r s' hr
        simp only [Option.some.injEq, Prod.mk.injEq] at h
        obtain ⟨rfl, _⟩ := h
        show 1 + szs r = _
        simp [leavesSize, ih _ _ _ hr]
      · cases h

/-- A variable's load out of a block whose cells are known. -/
theorem run_loadVar_at {P : Program} {t : TypeId} {ti : TI} (hT : TIok P t ti) {w : World} {b o : Nat} {c : Array Value} {e : TypeId} {fz : Nat × Nat}
    (hb : w.heap[b]? = some (.cells c e fz)) {cs : List Value} (hcs : cs = (c.toList.drop o).take ti.size) (hl : cs.length = ti.size) (v : Value)
    (hv : (ti.agg = true ∧ v = .agg cs.toArray) ∨ (ti.agg = false ∧ cs = [v])) : (loadVar t ⟨b, o, none⟩).run P w = .ok v w := by
  have hc : ∀ j u, cs[j]? = some u → w.cell? ((⟨b, o, none⟩ : Addr).add j) = some u := by
    intro j u hu
    rw [add_lit, cell_of_row w b (o + j) c e fz hb]
    rw [hcs, List.getElem?_take, List.getElem?_drop] at hu
    split at hu
    · simpa using hu
    · cases hu
  unfold loadVar
  simp only [Sem.run_bind, hT.isAgg, Result.andThen_ok]
  rcases hv with ⟨h1, rfl⟩ | ⟨h1, h2⟩
  · rw [h1]
    simp only [if_true, Sem.run_bind, hT.sizeOf, Result.andThen_ok]
    have := run_loadCells_list (P := P) w ⟨b, o, none⟩ cs hc
    rw [hl] at this
    rw [this]
    rfl
  · rw [h1]
    have := hc 0 v (by simp [h2])
    rw [add_lit] at this
    simp only [Bool.false_eq_true, if_false]
    simp only [load, Sem.run]
    simp only [Nat.add_zero] at this
    rw [this]

/-- Behind the cells' words, a value. -/
theorem asVal_load {P : Program} {t : TypeId} {ti : TI} (hT : TIok P t ti) {E : Emb} {w : World} {b o : Nat} {c : Array Value} {e : TypeId} {fz : Nat × Nat}
    (hb : w.heap[b]? = some (.cells c e fz)) {vc : List V} (hs : szs vc = ti.size) (hc : repC E vc ((c.toList.drop o).take ti.size)) {x : V} (hx : asVal ti.agg vc = some x) :
    ∃ v, (loadVar t ⟨b, o, none⟩).run P w = .ok v w ∧ repV E x v := by
  have hl := repC_len _ _ hc
  rw [hs] at hl
  rcases asVal_rep hx hc with ⟨h1, h2⟩ | ⟨h1, u, h2, h3⟩
  · exact ⟨_, run_loadVar_at hT hb rfl hl _ (.inl ⟨h1, rfl⟩), h2⟩
  · exact ⟨u, run_loadVar_at hT hb rfl hl _ (.inr ⟨h1, h2⟩), h3⟩
end Go.AX

namespace Go.AX
set_option autoImplicit false
set_option linter.unusedVariables false

def blks (aw : List (Nat × Blk)) : List Nat → Option (List Blk)
  | [] => some []
  | i :: t => match look aw i, blks aw t with
    | some b, some r => some (b :: r)
    | _, _ => none

theorem blks_one {aw : List (Nat × Blk)} {i : Nat} {bs : List Blk} (h : blks aw [i] = some bs) : ∃ b, look aw i = some b ∧ bs = [b] := by
  simp only [blks] at h
  split at h
  · rename_i b r h1 h2; cases h2; cases h; exact ⟨b, h1, rfl⟩
  · cases h

section
variable {P : Program} {w0 : World} {M : Nat → Prop} {E : Emb} {aw : List (Nat × Blk)} {n : Nat} {w : World} {t : TypeId} {ti : TI}

theorem seg_seg {α : Type} (l : List α) (s m o k : Nat) (h : o + k ≤ m) : ((((l.drop s).take m).drop o).take k) = (l.drop (s + o)).take k := by
  rw [List.drop_take, List.drop_drop, List.take_take]
  congr 1
  omega

theorem rLoad_ok (hW : WR w0 M E aw n w) (hT : TIok P t ti) {a : V} {va : Value} (hv : repV E a va) {bs : List Blk} (hbs : blks aw (ids [a]) = some bs)
    {r : Res} (h : rLoad std ti a bs = some r) (hs : r.side) : ∃ v, (Instr.loadAt t va).run P w = .ok v w ∧ repV E r.val v ∧ r.wr = [] ∧ r.dn = 0 := by
  unfold rLoad at h
  split at h
  · rename_i id off l
    obtain ⟨b, hb, he⟩ := blks_one hbs
    cases he
    split at h
    · rename_i c hc
      split at h
      · rename_i x hx
        cases h
        obtain ⟨b, c', e, h1, h2, h3⟩ := hW.blk _ _ hb
        simp only [repV] at hv
        obtain ⟨b', h4, rfl⟩ := hv
        rw [h1] at h4; cases h4
        obtain ⟨h5, h6⟩ := cut_rep _ _ _ _ hc _ h3
        have hl := repC_len _ _ h6
        obtain ⟨v, h7, h8⟩ := asVal_load hT h2 (by rw [← hl, List.length_take, List.length_drop]; omega) h6 hx
        exact ⟨v, by simp only [Instr.loadAt, Instr.sureAddr, Sem.run_bind, Sem.run_pure, Result.andThen_ok]; exact h7, h8, rfl, rfl⟩
      · cases h
    · cases h
  · rename_i id off l k e
    obtain ⟨b, hb, he⟩ := blks_one hbs
    cases he
    split at h
    · rename_i c s hc
      split at h
      · rename_i x hx
        cases h
        simp only [repV] at hv
        obtain ⟨b', h4, rfl⟩ := hv
        rcases hW.blk _ _ hb with ⟨h1, _⟩ | ⟨b, c', h1, h2, h3, h9, h5⟩
        · rw [h1] at h4; cases h4
        rw [h1] at h4; cases h4
        have h6 := rdLs_rep h5 _ _ _ _ hc hs
        have h7 := rdLs_size _ _ _ _ hc
        rw [hT.leaves] at h7
        rw [h7, Nat.add_zero] at h6
        obtain ⟨v, h8, h9⟩ := asVal_load hT h2 h7 h6 hx
        exact ⟨v, by simp only [Instr.loadAt, Instr.sureAddr, Sem.run_bind, Sem.run_pure, Result.andThen_ok]; exact h8, h9, rfl, rfl⟩
      · cases h
    · cases h
  · rename_i l off
    split at h
    · rename_i c s hc
      split at h
      · rename_i x hx
        cases h
        simp only [repV] at hv
        obtain ⟨p, c', e, fz, base, rfl, h2, h3, h4, h5⟩ := hv
        have h6 := rdLs_rep h5 _ _ _ _ hc hs
        have h7 := rdLs_size _ _ _ _ hc
        rw [hT.leaves] at h7
        rw [h7, Nat.add_zero, List.drop_drop, ← h4] at h6
        obtain ⟨v, h8, h9⟩ := asVal_load hT (hW.ro _ _ h3) h7 h6 hx
        refine ⟨v, ?_, h9, rfl, rfl⟩
        simp only [Instr.loadAt, Instr.sureAddr, Sem.run_bind, Sem.run_pure, Result.andThen_ok]
        obtain ⟨pb, po, ps⟩ := p
        simp only at h2; subst h2
        exact h8
      · cases h
    · cases h
  · rename_i id s m k i j l
    obtain ⟨b, hb, he⟩ := blks_one hbs
    cases he
    split at h
    · rename_i c hc
      split at h
      · rename_i ds hd
        split at h
        · rename_i c2 s2 hc2
          split at h
          · rename_i x hx
            cases h
            obtain ⟨b, c', e, h1, h2, h3⟩ := hW.blk _ _ hb
            simp only [repV] at hv
            obtain ⟨hi, b', h4, rfl⟩ := hv
            rw [h1] at h4; cases h4
            obtain ⟨h5, h6⟩ := cut_rep _ _ _ _ hc _ h3
            obtain ⟨h7, h8⟩ := flatD_rep hd h6
            have h9 := rdLs_rep h7 _ _ _ _ hc2 hs
            have h10 := rdLs_size _ _ _ _ hc2
            rw [hT.leaves] at h10
            have hl := repC_len _ _ h9
            have e1 : std.idx j i k = i * k + j := Nat.add_comm _ _
            rw [h10, Nat.add_zero, e1] at h9 hl
            rw [List.length_take, List.length_drop, List.length_take, List.length_drop] at hl
            by_cases hz : ti.size = 0
            · rw [hz] at h9 h10
              obtain ⟨v, h11, h12⟩ := asVal_load (o := s + i * k + j) hT h2 (by rw [h10, hz]) (by rw [hz]; simpa using h9) hx
              exact ⟨v, by simp only [Instr.loadAt, Instr.sureAddr, Sem.run_bind, Sem.run_pure, Result.andThen_ok]; exact h11, h12, rfl, rfl⟩
            rw [seg_seg _ _ _ _ _ (by omega)] at h9
            obtain ⟨v, h11, h12⟩ := asVal_load hT h2 h10 (o := s + i * k + j) (by rw [Nat.add_assoc]; exact h9) hx
            exact ⟨v, by simp only [Instr.loadAt, Instr.sureAddr, Sem.run_bind, Sem.run_pure, Result.andThen_ok]; exact h11, h12, rfl, rfl⟩
          · cases h
        · cases h
      · cases h
    · cases h
  · cases h

theorem run_storeVar_at (hT : TIok P t ti) {b o : Nat} {c : Array Value} {e : TypeId} (hb : w.heap[b]? = some (.cells c e (0, 0))) (v : Value) (us : List Value) (hu : v.cells.toList = us)
    (hl : us.length = ti.size) (hr : o + us.length ≤ c.size) (h1 : ∀ x ∈ us, x.oneCell' = true) :
    (storeVar t ⟨b, o, none⟩ v).run P w = .ok () (w.setRow b (c.toList.take o ++ us ++ c.toList.drop (o + us.length)).toArray) := by
  have hs : v.cells.size = ti.size := by rw [← hl, ← hu]; simp
  have := run_storeCells_at P b o e us 0 c w hb (by omega) h1
  simp only [Nat.add_zero] at this
  simp [storeVar, hT.sizeOf, hs, hu, this]

theorem grownBy_setRow (w : World) (b : Nat) (cs : Array Value) : w.grownBy (w.setRow b cs) (some b) :=
  ⟨rfl, rfl, rfl, by simp, fun k _ hk => setRow_other w b k cs (fun e => hk (by rw [e]))⟩

theorem szs_of_splice {l : List V} : ∀ {o : Nat} {c l' : List V}, splice l o c = some l' → True := fun _ => trivial

/-- A small array's cells, behind a store at an index that is not known. -/
theorem selAll_rep {E : Emb} {at_ : Nat} {d : D} {u : Value} (hu : repD E.H d u) : ∀ (l : List V) (p : Nat) (l' : List V), selAll std at_ d l p = some l' → ∀ cs, repC E l cs →
    repC E l' (if p ≤ at_ then cs.set (at_ - p) u else cs) := by
  intro l
  induction l with
  | nil =>
    intro p l' h cs hc
    simp only [selAll] at h; cases h
    simp only [repC] at hc; subst hc
    split <;> simp [repC]
  | cons x t ih =>
    intro p l' h cs hc
    have key : ∀ (x' : V) (r : List V) (v : Value) (us : List Value), cs = v :: us → selAll std at_ d t (Nat.succ p) = some r → repC E t us → x'.sz = 1 →
        repC E [x'] [if at_ = p then u else v] → repC E (x' :: r) (if p ≤ at_ then cs.set (at_ - p) u else cs) := by
      intro x' r v us h1 h2 h3 h4 h5
      have h6 := ih _ _ h2 us h3
      subst h1
      refine repC_cons.2 ⟨[if at_ = p then u else v], (if Nat.succ p ≤ at_ then us.set (at_ - Nat.succ p) u else us), ?_, by simp [h4], h5, h6⟩
      by_cases e : at_ = p
      · subst e; simp; omega
      · simp only [e, if_false]
        by_cases hle : p ≤ at_
        · have hlt : Nat.succ p ≤ at_ := by omega
          rw [if_pos hle, if_pos hlt, show at_ - p = (at_ - Nat.succ p) + 1 by omega]
          simp
        · have hlt : ¬ Nat.succ p ≤ at_ := by omega
          rw [if_neg hle, if_neg hlt]
          simp
    simp only [selAll] at h
    split at h
    · rename_i y r hy hr
      cases h
      unfold selCell at hy
      split at hy
      · rename_i k a
        split at hy
        · rename_i k' b
          simp only [cond_eq_ite, decide_eq_true_eq] at hy
          split at hy
          · rename_i ek
            cases hy
            subst ek
            simp only [repC] at hc
            rcases hc with ⟨n, l, xs, ys, e, _⟩ | ⟨v, us, rfl, h2, h3, h4⟩
            · cases e
            simp only [repV, repD] at h3 hu
            subst h3; subst hu
            refine key _ _ _ _ rfl hr h4 rfl ?_
            simp only [repC]
            refine .inr ⟨_, [], rfl, ?_, ?_, rfl⟩
            · split <;> rfl
            · simp only [repV, repD, std]
              by_cases e : at_ = p <;> simp [e]
          · cases hy
        · cases hy
      · rename_i a
        split at hy
        · rename_i b
          cases hy
          simp only [repC] at hc
          rcases hc with ⟨n, l, xs, ys, e, _⟩ | ⟨v, us, rfl, h2, h3, h4⟩
          · cases e
          simp only [repV, repD] at h3 hu
          subst h3; subst hu
          refine key _ _ _ _ rfl hr h4 rfl ?_
          simp only [repC]
          refine .inr ⟨_, [], rfl, ?_, ?_, rfl⟩
          · split <;> rfl
          · simp only [repV, repD, std]
            by_cases e : at_ = p <;> simp [e]
        · cases hy
      · cases hy
    · cases h

theorem repDs_set {H : Nat → Option Obj} {l : List D} {vs : List Value} {d : D} {u : Value} (h : repDs H l vs) (hd : repD H d u) (i : Nat) : repDs H (l.set i d) (vs.set i u) :=
  repDs_of_get _ _ fun j x hx => by
    rw [List.getElem?_set] at hx ⊢
    have hl := repDs_len _ _ h
    split at hx
    · rename_i e
      split at hx
      · cases hx
        rw [if_pos e, if_pos (by omega)]
        exact ⟨u, rfl, hd⟩
      · cases hx
    · rename_i e
      rw [if_neg e]
      exact repDs_get _ _ h _ _ hx

theorem setAll_rep {H : Nat → Option Obj} {l : List D} {off : Nat} {vs : List Value} (h : repDs H l vs) : ∀ (ds : List D) (p : Nat) (us : List Value), repDs H ds us → ds.length = us.length → off + p + us.length ≤ vs.length →
    repDs H (setAll std l off ds p) (vs.take (off + p) ++ us ++ vs.drop (off + p + us.length))
  | [], p, us, _, hl, hr => by
    have : us = [] := List.eq_nil_of_length_eq_zero (by simpa using hl.symm)
    subst this
    simpa [setAll] using h
  | d :: t, p, us, hd, hl, hr => by
    simp only [repDs] at hd
    obtain ⟨u, us, rfl, h1, h2⟩ := hd
    simp only [List.length_cons] at hl hr
    have ih := setAll_rep (off := off) h t (p + 1) us h2 (by omega) (by omega)
    have := repDs_set ih h1 (off + p)
    simp only [setAll]
    refine cast ?_ this
    show repDs H ((setAll std l off t (p + 1)).set (off + p) d) _ = repDs H ((setAll std l off t (Nat.succ p)).set (std.add off p) d) _
    have e : (vs.take (off + (p + 1)) ++ us ++ vs.drop (off + (p + 1) + us.length)).set (off + p) u = vs.take (off + p) ++ u :: us ++ vs.drop (off + p + (us.length + 1)) := by
      have hlt : off + p < vs.length := by omega
      rw [show off + (p + 1) = off + p + 1 by omega, List.take_succ_eq_append_getElem hlt, List.append_assoc, List.append_assoc, List.set_append_right _ _ (by simp; omega)]
      simp only [List.length_take, Nat.min_eq_left (Nat.le_of_lt hlt), Nat.sub_self, List.cons_append, List.nil_append, List.set_cons_zero, List.append_assoc]
      congr 4
      omega
    rw [e]
    rfl
theorem repV_of_d {E : Emb} {d : D} {u : Value} (h : repC E [.d d] [u]) : repD E.H d u := by
  simp only [repC] at h
  rcases h with ⟨n, l, xs, ys, e, _⟩ | ⟨v, us, e, h2, h3, h4⟩
  · cases e
  · cases e; simpa only [repV] using h3

theorem seg_set {α : Type} (cl : List α) (s q x : Nat) (u : α) (h : s + q ≤ cl.length) (hx : x + 1 ≤ q) :
    cl.take s ++ ((cl.drop s).take q).set x u ++ cl.drop (s + q) = cl.take (s + x) ++ [u] ++ cl.drop (s + x + [u].length) := by
  have h1 : cl = cl.take s ++ ((cl.drop s).take q) ++ cl.drop (s + q) := by
    rw [← List.drop_drop, List.append_assoc, List.take_append_drop, List.take_append_drop]
  have h2 : cl.set (s + x) u = cl.take (s + x) ++ [u] ++ cl.drop (s + x + [u].length) := by
    rw [List.set_eq_take_append_cons_drop, if_pos (by omega)]
    simp
  have h3 : (cl.take s ++ ((cl.drop s).take q) ++ cl.drop (s + q)).set (s + x) u = cl.take s ++ ((cl.drop s).take q).set x u ++ cl.drop (s + q) := by
    rw [List.append_assoc, List.append_assoc, List.set_append_right _ _ (by rw [List.length_take]; omega), List.set_append_left _ _ (by rw [List.length_take, List.length_take, List.length_drop]; omega)]
    congr 3
    rw [List.length_take]; omega
  rw [← h2, ← h3, ← h1]

theorem rStore_ok (hW : WR w0 M E aw n w) (hT : TIok P t ti) {a x : V} {va vx : Value} (hv : repV E a va) (hx : repV E x vx) {bs : List Blk} (hbs : blks aw (ids [a]) = some bs)
    {r : Res} (h : rStore std ti a x bs = some r) (hs : r.side) :
    ∃ w' id b blk, (Instr.storeAt t va vx).run P w = .ok () w' ∧ (w.grownBy w' (some b) ∧ w.drawn ≤ w'.drawn) ∧ E.ρ id = some (some b) ∧ r.wr = [(id, blk)] ∧ BlkOK E id w' blk ∧ r.val = .tup [] ∧ r.dn = 0 ∧ ∃ y, look aw id = some y ∧ y.live = true := by
  unfold rStore at h
  split at h
  · rename_i id off l
    obtain ⟨b, hb, he⟩ := blks_one hbs
    cases he
    simp only [cond_eq_ite, Bool.and_eq_true] at h
    split at h
    · rename_i hc
      obtain ⟨hn, hsz⟩ := hc
      split at h
      · rename_i l' hl'
        cases h
        obtain ⟨b, c, e, h1, h2, h3⟩ := hW.blk _ _ hb
        simp only [repV] at hv
        obtain ⟨b', h4, rfl⟩ := hv
        rw [h1] at h4; cases h4
        have h5 := cells_rep hx (by rintro l rfl; cases hn)
        obtain ⟨h6, h7⟩ := splice_rep _ _ _ _ hl' _ _ h3 h5
        have h8 := repC_len _ _ h5
        have hst := run_storeVar_at (P := P) hT h2 vx _ rfl (by rw [h8]; exact Nat.eq_of_beq_eq_true hsz) (by simpa using h6) (repC_one _ _ h5)
        exact ⟨_, id, b, _, by simp only [Instr.storeAt, Instr.sureAddr, Sem.run_bind, Sem.run_pure, Result.andThen_ok]; exact hst, ⟨grownBy_setRow _ _ _, Nat.le_refl _⟩, h1, rfl,
          ⟨b, _, e, h1, setRow_heap w b c _ e _ h2, by simpa using h7⟩, rfl, rfl, _, hb, rfl⟩
      · cases h
    · cases h
  · rename_i id off l k e
    obtain ⟨b, hb, he⟩ := blks_one hbs
    cases he
    split at h
    · rename_i ds hds
      simp only [cond_eq_ite] at h
      split at h
      · rename_i hsz
        cases h
        have hs : off + ti.size ≤ l.length := hs
        simp only [repV] at hv
        obtain ⟨b', h4, rfl⟩ := hv
        rcases hW.blk _ _ hb with ⟨h1, _⟩ | ⟨b, c, h1, h2, h3, h9, h5⟩
        · rw [h1] at h4; cases h4
        have hbb : b = b' := by rw [h1] at h4; simpa using h4
        subst hbb
        have hsz := Nat.eq_of_beq_eq_true hsz
        have h6 := cells_rep hx (by rintro l rfl; simp [V.cells, plain, plainK] at hds)
        obtain ⟨h7, h8⟩ := plain_rep _ _ hds _ h6
        have hll := repDs_len _ _ h5
        have hlen : vx.cells.toList.length = ti.size := by rw [repC_len _ _ h6, hsz]
        have hst := run_storeVar_at (P := P) (o := off) hT h2 vx _ rfl hlen (by rw [hlen]; simp only [Array.length_toList] at hll; omega) (repC_one _ _ h6)
        have h10 := setAll_rep (off := off) h5 ds 0 _ h7 h8 (by rw [hlen]; omega)
        simp only [Nat.add_zero] at h10
        refine ⟨_, id, b, _, by simp only [Instr.storeAt, Instr.sureAddr, Sem.run_bind, Sem.run_pure, Result.andThen_ok]; exact hst, ⟨grownBy_setRow _ _ _, Nat.le_refl _⟩, h1, rfl,
          .inr ⟨b, _, h1, setRow_heap w b c _ e _ h2, ?_, ?_, by simpa using h10⟩, rfl, rfl, _, hb, rfl⟩
        · rw [← h3]
          simp only [List.size_toArray, List.length_append, List.length_take, List.length_drop, hlen, Array.length_toList] at hll ⊢
          omega
        · intro y hy
          simp only [List.mem_append] at hy
          rcases hy with (hy | hy) | hy
          · exact h9 y (List.mem_of_mem_take hy)
          · exact repC_one _ _ h6 y hy
          · exact h9 y (List.mem_of_mem_drop hy)
      · cases h
    · cases h
  · rename_i id s m k i j l
    obtain ⟨b, hb, he⟩ := blks_one hbs
    cases he
    generalize Nat.mul m k = q at *
    split at h
    · rename_i d hxd
      simp only [cond_eq_ite] at h
      split at h
      · rename_i hone
        have hone := Nat.eq_of_beq_eq_true hone
        obtain ⟨b, c, e, h1, h2, h3⟩ := hW.blk _ _ hb
        simp only [repV] at hv
        obtain ⟨hi, b', h4, rfl⟩ := hv
        rw [h1] at h4; cases h4
        have h5 := cells_rep hx (by rintro l rfl; simp [V.cells] at hxd)
        rw [hxd] at h5
        have hlen := repC_len _ _ h5
        obtain ⟨u, hu⟩ : ∃ u, vx.cells.toList = [u] := List.length_eq_one_iff.1 hlen
        rw [hu] at h5
        have hud := repV_of_d h5
        have e1 : std.idx j i k = i * k + j := Nat.add_comm _ _
        have fin : ∀ (l' : List V), (∃ us, us.length = q ∧ s + q ≤ c.toList.length ∧ us = ((c.toList.drop s).take (q)).set (i * k + j) u ∧ repC E l' (c.toList.take s ++ us ++ c.toList.drop (s + us.length))) → i * k + j + 1 ≤ q →
            ∃ w' id' b' blk, (Instr.storeAt t (.pointer (some ⟨b, s + i * k + j, none⟩)) vx).run P w = .ok () w' ∧ (w.grownBy w' (some b') ∧ w.drawn ≤ w'.drawn) ∧ E.ρ id' = some (some b') ∧ [(id, Blk.box l')] = [(id', blk)] ∧ BlkOK E id' w' blk ∧ V.tup [] = .tup [] ∧ 0 = 0 ∧ ∃ y, look aw id' = some y ∧ y.live = true := by
          rintro l' ⟨us, hus, hr, hue, h6⟩ hlt
          have hst := run_storeVar_at (P := P) (o := s + i * k + j) hT h2 vx _ hu (by simp [hone]) (by simp only [List.length_singleton, Array.length_toList] at hr ⊢; omega) (fun y hy => by
            cases List.mem_singleton.1 hy
            exact repD_one _ _ hud)
          refine ⟨_, id, b, _, by simp only [Instr.storeAt, Instr.sureAddr, Sem.run_bind, Sem.run_pure, Result.andThen_ok]; exact hst, ⟨grownBy_setRow _ _ _, Nat.le_refl _⟩, h1, rfl,
            ⟨b, _, e, h1, setRow_heap w b c _ e _ h2, ?_⟩, rfl, rfl, _, hb, rfl⟩
          rw [hus] at h6
          have e2 := seg_set c.toList s q (i * k + j) u hr hlt
          rw [hue, e2] at h6
          rw [Nat.add_assoc s]
          exact h6
        split at h
        · rename_i n2 ds hcut
          split at h
          · rename_i l' hl'
            cases h
            have hs : i * k + j + 1 ≤ n2 := by rw [← e1]; exact hs
            obtain ⟨h6, h7⟩ := cut_rep _ _ _ _ hcut _ h3
            have h8 := repC_len _ _ h7
            have hn2 : szs [V.big n2 ds] = n2 := by show n2 + 0 = n2; omega
            rw [hn2] at h8
            have hmk : n2 = q := by rw [← h8, List.length_take, List.length_drop]; omega
            have h9 : repC E [V.big n2 (std.set ds (std.idx j i k) d)] (((c.toList.drop s).take (q)).set (i * k + j) u) := by
              simp only [repC] at h7 ⊢
              rcases h7 with ⟨n', l2, xs, ys, e', h10, h11, h12, h13, h14⟩ | ⟨v, us, e', _, h15, _⟩
              · cases e'
                subst h14
                simp only [List.append_nil] at h10
                refine .inl ⟨n2, _, (xs.set (i * k + j) u), [], rfl, by rw [h10, List.append_nil], by rw [List.length_set]; exact h11, by show (ds.set _ d).length = _; simpa using h12, ?_, rfl⟩
                rw [e1]
                exact repDs_set h13 hud _
              · simp only [repV] at h15
            obtain ⟨h10, h11⟩ := splice_rep _ _ _ _ hl' _ _ h3 h9
            exact fin _ ⟨_, by simp only [List.length_set]; rw [h8]; exact hmk, by omega, rfl, h11⟩ (by omega)
          · cases h
        · rename_i c2 hcut
          split at h
          · rename_i c3 hsel
            split at h
            · rename_i l' hl'
              cases h
              have hs : i * k + j + 1 ≤ q := by rw [← e1]; exact hs
              obtain ⟨h6, h7⟩ := cut_rep _ _ _ _ hcut _ h3
              have h8 := selAll_rep hud _ _ _ hsel _ h7
              rw [e1] at h8
              simp only [Nat.zero_le, if_true, Nat.sub_zero] at h8
              obtain ⟨h10, h11⟩ := splice_rep _ _ _ _ hl' _ _ h3 h8
              exact fin _ ⟨_, by simp only [List.length_set, List.length_take, List.length_drop]; omega, by omega, rfl, h11⟩ hs
            · cases h
          · cases h
        · cases h
      · cases h
    · cases h
  · cases h
end
end Go.AX

namespace Go.AX
set_option autoImplicit false
set_option linter.unusedVariables false

def Emb.add (E : Emb) (n : Nat) (x : Option Nat) (k : Nat) : Emb :=
  { ρ := fun i => if i = n then some x else E.ρ i, κ := fun i => if i = n then k else E.κ i, H := E.H }

theorem Emb.le_add {E : Emb} {n : Nat} {x : Option Nat} {k : Nat} (h : E.ρ n = none) : EmbLe E (E.add n x k) := by
  refine ⟨fun i y hi => ?_, fun i y hi => ?_, fun _ _ h => h⟩
  · have : i ≠ n := by rintro rfl; rw [h] at hi; cases hi
    simp [Emb.add, this, hi]
  · have : i ≠ n := by rintro rfl; rw [h] at hi; cases hi
    simp [Emb.add, this]

theorem Emb.add_new {E : Emb} {n : Nat} {x : Option Nat} {k : Nat} : (E.add n x k).ρ n = some x := by simp [Emb.add]
theorem Emb.add_κ {E : Emb} {n : Nat} {x : Option Nat} {k : Nat} : (E.add n x k).κ n = k := by simp [Emb.add]
theorem Emb.add_ne {E : Emb} {n i : Nat} {x : Option Nat} {k : Nat} (h : i ≠ n) : (E.add n x k).ρ i = E.ρ i := by simp [Emb.add, h]

section
variable {P : Program} {w0 : World} {M : Nat → Prop} {E : Emb} {aw : List (Nat × Blk)} {n : Nat} {w : World}

theorem grownBy_refl (w : World) (row : Option Nat) : w.grownBy w row := ⟨rfl, rfl, rfl, Nat.le_refl _, fun _ _ _ => rfl⟩

theorem Did.same (hW : WR w0 M E aw n w) {r : Res} {v : Value} (h1 : r.wr = []) (hv : repV E r.val v) : Did aw E n w r E w v := by
  obtain ⟨val, wr, dn, side⟩ := r
  simp only at h1; subst h1
  exact ⟨.refl E, fun b o h => .inl h, fun i x h => .inl h, hW.own, fun i j b x y h1 h2 h3 h4 h5 h6 => hW.inj i j b x y h1 h2 h3 h4 h5 h6, ⟨_, GrownS.of (grownBy_refl w none), fun k hk => by cases hk⟩, fun i b h => (by cases h), hv⟩

/-- A new block. -/
theorem Did.alloc (hW : WR w0 M E aw n w) {c : Array Value} {e : TypeId} {blk : Blk} {val : V} {v : Value} {s : Prop}
    (hb : BlkOK (E.add n (some w.heap.size) c.size) n (w.alloc (.cells c e)) blk) (hv : repV (E.add n (some w.heap.size) c.size) val v) :
    Did aw E n w ⟨val, [(n, blk)], 1, s⟩ (E.add n (some w.heap.size) c.size) (w.alloc (.cells c e)) v := by
  have hn := hW.none_n
  refine ⟨Emb.le_add hn, fun b o h => .inl h, ?_, ?_, ?_, ⟨_, GrownS.of (World.grownBy_alloc w _ none), fun k hk => by cases hk⟩, ?_, hv⟩
  · intro i x hx
    by_cases e : i = n
    · subst e
      rw [Emb.add_new] at hx
      cases hx
      exact .inr ⟨Nat.le_refl _, Nat.lt_succ_self _, fun b hb => by cases hb; exact .inl ⟨Nat.le_refl _, by show _ < (w.heap.push _).size; simp⟩⟩
    · rw [Emb.add_ne e] at hx; exact .inl hx
  · intro i y b h1 h2 h3
    simp only [List.cons_append, List.nil_append, look_cons] at h1
    by_cases e : i = n
    · subst e
      rw [Emb.add_new] at h3; cases h3
      cases hH : E.H w.heap.size with
      | none => exact hH
      | some o => exact absurd (Array.getElem?_eq_some_iff.1 (hW.ro _ o hH)).1 (Nat.lt_irrefl _)
    · rw [Emb.add_ne e] at h3
      rw [if_neg (Ne.symm e)] at h1
      exact hW.own i y b h1 h2 h3
  · intro i j b x y h1 h2 h3 h4 h5 h6
    simp only [List.cons_append, List.nil_append, look_cons] at h1 h3
    by_cases ei : i = n <;> by_cases ej : j = n
    · rw [ei, ej]
    · subst ei
      rw [Emb.add_new] at h5; cases h5
      rw [Emb.add_ne ej] at h6
      exact absurd (hW.dom _ _ h6).1 (Nat.lt_irrefl _)
    · subst ej
      rw [Emb.add_new] at h6; cases h6
      rw [Emb.add_ne ei] at h5
      exact absurd (hW.dom _ _ h5).1 (Nat.lt_irrefl _)
    · rw [Emb.add_ne ei] at h5
      rw [Emb.add_ne ej] at h6
      rw [if_neg (Ne.symm ei)] at h1
      rw [if_neg (Ne.symm ej)] at h3
      exact hW.inj i j b x y h1 h2 h3 h4 h5 h6
  · intro i b hi
    simp only [look_cons] at hi
    split at hi
    · rename_i e; cases hi; subst e; exact hb
    · cases hi

theorem did_put (hW : WR w0 M E aw n w) {id : Nat} {row : Option Nat} {w' : World} {blk y : Blk} {val : V} {v : Value} {s : Prop} (h2 : w.grownBy w' row) (h3 : ∀ b, row = some b → E.ρ id = some (some b)) (h5 : BlkOK E id w' blk) (hy : look aw id = some y) (hyl : y.live = true) (hv : repV E val v) (hd : w.drawn ≤ w'.drawn := by first | assumption | exact Nat.le_refl _ | exact Nat.le_succ _ | exact Nat.le_add_right _ _) :
    Did aw E n w ⟨val, [(id, blk)], 0, s⟩ E w' v := by
  have f : ∀ i x, look ([(id, blk)] ++ aw) i = some x → x.live = true → ∃ x', look aw i = some x' ∧ x'.live = true := by
      intro i x h1 h2
      simp only [List.cons_append, List.nil_append, look_cons] at h1
      split at h1
      · rename_i e; subst e; exact ⟨y, hy, hyl⟩
      · exact ⟨x, h1, h2⟩
  refine ⟨.refl E, fun b o h => .inl h, fun i x h => .inl h, ?_, ?_, ⟨_, GrownS.of h2, fun k hk => ?_⟩, ?_, hv⟩
  · intro i x b' h1 h2 h3
    obtain ⟨x1, h7, h8⟩ := f i x h1 h2
    exact hW.own i x1 b' h7 h8 h3
  · intro i j b' x z h1 h2 h3 h4 h5 h6
    obtain ⟨x1, h7, h8⟩ := f i x h1 h2
    obtain ⟨x2, h9, h10⟩ := f j z h3 h4
    exact hW.inj i j b' x1 x2 h7 h8 h9 h10 h5 h6
  · exact ⟨id, y, h3 k hk, hy, hyl, by simp [look_cons]⟩
  · intro i b hb
    rw [look_cons] at hb
    split at hb
    · rename_i e; cases hb; subst e; exact h5
    · cases hb

def OpRun (P : Program) (o : Oper) (a : Act) (w : World) (v : Value) (w' : World) : Prop :=
  (execOp a.eval o).run P w = .ok (.value v) w' ∨ ((execOp a.eval o).run P w = .ok .skip w' ∧ v = undef)

def OpDid (P : Program) (o : Oper) (a : Act) (aw : List (Nat × Blk)) (E : Emb) (n : Nat) (w : World) (r : Res) : Prop :=
  ∃ E' w' v, OpRun P o a w v w' ∧ Did aw E n w r E' w' v

theorem OpDid.value {o : Oper} {a : Act} {r : Res} {E' : Emb} {w' : World} {v : Value} (h : (execOp a.eval o).run P w = .ok (.value v) w') (hd : Did aw E n w r E' w' v) : OpDid P o a aw E n w r :=
  ⟨E', w', v, .inl h, hd⟩

theorem OpDid.pure (hW : WR w0 M E aw n w) {o : Oper} {a : Act} {r : Res} {v : Value} (h : (execOp a.eval o).run P w = .ok (.value v) w) (h1 : r.wr = []) (hv : repV E r.val v) : OpDid P o a aw E n w r :=
  ⟨E, w, v, .inl h, Did.same hW h1 hv⟩

theorem undef_rep (E : Emb) : repV E (.tup []) undef := by
  simp only [repV]; exact ⟨#[], rfl, by simp [repVs]⟩

theorem run_newVar (t : TypeId) (v : Value) : (newVar t v).run P w = .ok ⟨w.heap.size, 0, none⟩ (w.alloc (.cells v.cells t)) := by
  simp [newVar, newRow]

theorem Did.box (hW : WR w0 M E aw n w) {t : TypeId} {l : List V} {v : Value} {s : Prop} (hc : repC E l v.cells.toList) :
    Did aw E n w ⟨.ptr n 0, [(n, .box l)], 1, s⟩ (E.add n (some w.heap.size) v.cells.size) (w.alloc (.cells v.cells t)) (.pointer (some ⟨w.heap.size, 0, none⟩)) := by
  refine Did.alloc hW ?_ ?_
  · exact ⟨w.heap.size, _, t, Emb.add_new, heap_alloc_new w _, repC_mono (Emb.le_add hW.none_n) _ _ hc⟩
  · simp only [repV]; exact ⟨_, Emb.add_new, rfl⟩
end
end Go.AX

namespace Go.AX
set_option autoImplicit false
set_option linter.unusedVariables false

theorem repVs_len {E : Emb} : ∀ (l : List V) (vs : List Value), repVs E l vs → vs.length = l.length
  | [], vs, h => by simp only [repVs] at h; subst h; rfl
  | x :: t, vs, h => by
    simp only [repVs] at h; obtain ⟨u, us, rfl, _, h2⟩ := h
    simp [repVs_len t us h2]

theorem repVs_one {E : Emb} {x : V} {vs : List Value} (h : repVs E [x] vs) : ∃ u, vs = [u] ∧ repV E x u := by
  simp only [repVs] at h; obtain ⟨u, us, rfl, h1, rfl⟩ := h; exact ⟨u, rfl, h1⟩

theorem repVs_two {E : Emb} {x y : V} {vs : List Value} (h : repVs E [x, y] vs) : ∃ u v, vs = [u, v] ∧ repV E x u ∧ repV E y v := by
  simp only [repVs] at h; obtain ⟨u, us, rfl, h1, v, ws, rfl, h2, rfl⟩ := h; exact ⟨u, v, rfl, h1, h2⟩

theorem notTup_ne {x : V} (h : x.notTup = true) : ∀ l, x ≠ .tup l := by rintro l rfl; cases h

section
variable {P : Program} {w0 : World} {M : Nat → Prop} {E : Emb} {aw : List (Nat × Blk)} {n : Nat} {w : World}

theorem TIok.zero {t : TypeId} {ti : TI} (h : TIok P t ti) (w : World) : ∃ z, (zeroValue t).run P w = .ok z w ∧ (∀ E : Emb, repC E (zeroL std ti.leaves) z.cells.toList) ∧ z.cells.size = ti.size := by
  obtain ⟨⟨i, z, d, hi, hs, hb, hz, hr, hd, htd, hag, hzs, _⟩, _⟩ := h
  exact ⟨z, by simp [zeroValue, typeInfo, hi, hz], hr, hzs⟩

theorem TIok.zero' {t : TypeId} {ti : TI} (h : TIok P t ti) (w : World) : ∃ z, (zeroValue t).run P w = .ok z w ∧ (∀ E : Emb, repC E (zeroL std ti.leaves) z.cells.toList) ∧ z.cells.size = ti.size ∧ zForm ti.agg z = true := by
  obtain ⟨i, z, d, hi, hs, hb, hz, hr, hd, htd, hag, h1, h2⟩ := h.info
  exact ⟨z, by simp [zeroValue, typeInfo, hi, hz], hr, h1, h.zform i z hi hz⟩
theorem TIok.slice {t e : TypeId} {ti : TI} (h : TIok P t ti) (hd : ti.td = .slice e) : P.underlying t = some (.slice e) := by
  obtain ⟨⟨i, z, d, hi, hs, hb, hz, hr, hu, htd, _⟩, _⟩ := h
  rw [hd] at htd
  cases d <;> first | (cases htd; done) | skip
  rename_i e'
  have := Nat.eq_of_beq_eq_true htd
  rw [hu, this]

theorem TIok.array {t e : TypeId} {m : Nat} {ti : TI} (h : TIok P t ti) (hd : ti.td = .array m e) : P.underlying t = some (.array m e) := by
  obtain ⟨⟨i, z, d, hi, hs, hb, hz, hr, hu, htd, _⟩, _⟩ := h
  rw [hd] at htd
  cases d <;> first | (cases htd; done) | skip
  simp only [tdOk, Bool.and_eq_true] at htd
  rw [hu, Nat.eq_of_beq_eq_true htd.1, Nat.eq_of_beq_eq_true htd.2]

theorem TIok.int {t : TypeId} {k : IntKind} {ti : TI} (h : TIok P t ti) (hd : ti.td = .int k) : P.underlying t = some (.int k) := by
  obtain ⟨⟨i, z, d, hi, hs, hb, hz, hr, hu, htd, _⟩, _⟩ := h
  rw [hd] at htd
  cases d <;> first | (cases htd; done) | skip
  simp only [tdOk, decide_eq_true_eq] at htd
  rw [hu, htd]

theorem TIok.boolT {t : TypeId} {ti : TI} (h : TIok P t ti) (hd : ti.td = .bool) : P.underlying t = some .bool := by
  obtain ⟨⟨i, z, d, hi, hs, hb, hz, hr, hu, htd, _⟩, _⟩ := h
  rw [hd] at htd
  cases d <;> first | (cases htd; done) | skip
  exact hu

theorem fsEq_get : ∀ (fs : List (Nat × TypeId)) (gs : List Field), fsEq fs gs = true → ∀ (i o : Nat) (t : TypeId), offOf fs i = some (o, t) → ∃ g, gs[i]? = some g ∧ g.offset = o ∧ g.type = t
  | [], _, _ => by intro i o t h; cases h
  | (o', t') :: r, [], h => by cases h
  | (o', t') :: r, g :: gs, h => by
    simp only [fsEq, Bool.and_eq_true] at h
    intro i o t hi
    cases i with
    | zero => cases hi; exact ⟨g, rfl, (Nat.eq_of_beq_eq_true h.1.1).symm, (Nat.eq_of_beq_eq_true h.1.2).symm⟩
    | succ i => exact fsEq_get r gs h.2 i o t hi

theorem TIok.struct {t : TypeId} {fs : List (Nat × TypeId)} {ti : TI} (h : TIok P t ti) (hd : ti.td = .struct fs) :
    ∃ gs, P.underlying t = some (.struct gs) ∧ fsEq fs gs.toList = true ∧ ∀ f ∈ gs.toList, (P.info? f.type).isSome = true := by
  obtain ⟨⟨i, z, d, hi, hs, hb, hz, hr, hu, htd, _, _, hf⟩, _⟩ := h
  rw [hd] at htd
  cases d <;> first | (cases htd; done) | skip
  exact ⟨_, hu, htd, hf _ rfl⟩

theorem exec_value {o : Oper} {a : Act} (s : Sem Value) {v : Value} {w' : World} (he : execOp a.eval o = (do pure (.value (← s)) : Sem Next)) (h : s.run P w = .ok v w') : (execOp a.eval o).run P w = .ok (.value v) w' := by
  rw [he]; simp [h]

theorem op_move (hW : WR w0 M E aw n w) {o : Oper} {a : Act} {x : Operand} (ho : o.op = .move x ∨ o.op = .assign x) {v : V} (hv : repV E v (a.eval x)) :
    OpDid P o a aw E n w ⟨v, [], 0, True⟩ := by
  refine OpDid.pure hW (v := a.eval x) ?_ rfl hv
  unfold execOp
  rcases ho with ho | ho <;> simp [ho]

theorem op_box (hW : WR w0 M E aw n w) {o : Oper} {a : Act} {t : TypeId} {x : Operand} (ho : o.op = .box t x) {v : V} (hv : repV E v (a.eval x)) (hn : v.notTup = true) :
    OpDid P o a aw E n w ⟨.ptr n 0, [(n, .box v.cells)], 1, True⟩ := by
  refine OpDid.value (exec_value (Instr.box t (a.eval x)) (by unfold execOp; simp only [ho]) ?_) (Did.box hW (t := t) (cells_rep hv (notTup_ne hn)))
  simp [Instr.box, run_newVar]

theorem op_alloc (hW : WR w0 M E aw n w) {o : Oper} {a : Act} {t : TypeId} {ti : TI} (hT : TIok P t ti) (ho : o.op = .alloc t) :
    OpDid P o a aw E n w ⟨.ptr n 0, [(n, .box (zeroL std ti.leaves))], 1, True⟩ := by
  obtain ⟨z, hz, hr, _⟩ := hT.zero w
  refine OpDid.value (exec_value (Instr.alloc t true (.tuple #[])) (by unfold execOp; simp only [ho]) ?_) (Did.box hW (t := t) (hr E))
  simp [Instr.alloc, hz, run_newVar]

theorem op_load (hW : WR w0 M E aw n w) {o : Oper} {a : Act} {t : TypeId} {ti : TI} {x : Operand} (hT : TIok P t ti) (ho : o.op = .load t x) {v : V} (hv : repV E v (a.eval x))
    {bs : List Blk} (hbs : blks aw (ids [v]) = some bs) {r : Res} (h : rLoad std ti v bs = some r) (hs : r.side) : OpDid P o a aw E n w r := by
  obtain ⟨u, h1, h2, h3, h4⟩ := rLoad_ok hW hT hv hbs h hs
  exact OpDid.pure hW (exec_value (Instr.loadAt t (a.eval x)) (by unfold execOp; simp only [ho]) h1) h3 h2

theorem op_store (hW : WR w0 M E aw n w) {o : Oper} {a : Act} {t : TypeId} {ti : TI} {x y : Operand} (hT : TIok P t ti) (ho : o.op = .store t x y) {v u : V} (hv : repV E v (a.eval x)) (hu : repV E u (a.eval y))
    {bs : List Blk} (hbs : blks aw (ids [v]) = some bs) {r : Res} (h : rStore std ti v u bs = some r) (hs : r.side) : OpDid P o a aw E n w r := by
  obtain ⟨w', id, b, blk, h1, h2, h3, h4, h5, h6, h7, y, hy, hyl⟩ := rStore_ok hW hT hv hu hbs h hs
  obtain ⟨val, wr, dn, side⟩ := r
  simp only at h4 h6 h7
  subst h4 h6 h7
  exact ⟨E, w', undef, .inr ⟨by unfold execOp; simp [ho, h1], rfl⟩, did_put hW h2.1 (fun k hk => by cases hk; exact h3) h5 hy hyl (undef_rep E) h2.2⟩

theorem op_nilCheck (hW : WR w0 M E aw n w) {o : Oper} {a : Act} {x : Operand} (ho : o.op = .nilCheck x) {v : V} (hv : repV E v (a.eval x))
    (h : ∃ p, a.eval x = .pointer (some p)) : OpDid P o a aw E n w ⟨v, [], 0, True⟩ := by
  obtain ⟨p, hp⟩ := h
  refine OpDid.pure hW (v := a.eval x) ?_ rfl hv
  unfold execOp
  simp [ho, hp]

theorem op_un (hW : WR w0 M E aw n w) {o : Oper} {a : Act} {t : TypeId} {u : UnOp} {x : Operand} (ho : o.op = .unOp u t x) {v : V} (hv : repV E v (a.eval x)) {r : Res}
    (h : rUn std u v = some r) : OpDid P o a aw E n w r := by
  unfold rUn at h
  split at h
  · rename_i b
    cases h
    simp only [repV, repD] at hv
    exact OpDid.pure hW (v := .bool (!b)) (exec_value (Op.unary .not (a.eval x)) (by unfold execOp; simp only [ho]) (by rw [hv]; rfl)) rfl (by simp [repV, repD, std])
  · rename_i k b
    cases h
    simp only [repV, repD] at hv
    exact OpDid.pure hW (v := .int k (k.wrap (0 - b))) (exec_value (Op.unary .neg (a.eval x)) (by unfold execOp; simp only [ho]) (by rw [hv]; rfl)) rfl (by simp only [repV, repD, std, binI])
  · rename_i b
    cases h
    simp only [repV, repD] at hv
    exact OpDid.pure hW (v := .int .u32 (binI .xor .u32 4294967295 b)) (exec_value (Op.unary .xor (a.eval x)) (by unfold execOp; simp only [ho]) (by rw [hv]; rfl)) rfl (by simp only [repV, repD, std])
  · cases h

theorem op_pick (hW : WR w0 M E aw n w) {o : Oper} {a : Act} {x y z : Operand} (ho : o.op = .pick x y z) {c u v : V} (hc : repV E c (a.eval x)) (hu : repV E u (a.eval y)) (hv : repV E v (a.eval z)) {r : Res}
    (h : rPick std c u v = some r) (hs : r.side) : OpDid P o a aw E n w r := by
  unfold rPick at h
  split at h
  case h_2 => cases h
  rename_i b
  simp only [repV, repD] at hc
  have hex : (execOp a.eval o).run P w = .ok (.value (if b then a.eval y else a.eval z)) w := by
    unfold execOp; simp only [ho, hc]; rfl
  have go : ∀ (r' : V), repV E r' (if b then a.eval y else a.eval z) → OpDid P o a aw E n w ⟨r', [], 0, True⟩ := fun r' hr => OpDid.pure hW hex rfl hr
  split at h
  · cases h
    have hb : b = false := hs
    subst hb
    exact OpDid.pure hW hex rfl hv
  · cases h
    have hb : b = true := hs
    subst hb
    exact OpDid.pure hW hex rfl hu
  · rename_i p q
    cases h
    simp only [repV, repD] at hu hv
    refine go _ ?_
    simp only [repV, repD, hu, hv, std]
    cases b <;> rfl
  · rename_i j p k q
    simp only [cond_eq_ite] at h
    split at h
    · rename_i hd
      cases h
      have hd := of_decide_eq_true hd
      subst hd
      simp only [repV, repD] at hu hv
      refine go _ ?_
      simp only [repV, repD, hu, hv, std]
      cases b <;> rfl
    · cases h
  · cases h

theorem op_convert (hW : WR w0 M E aw n w) {o : Oper} {a : Act} {s t : TypeId} {k j : IntKind} {x : Operand} {y : Int} (hs : ∃ d, P.underlying s = some d) (ht : P.underlying t = some (.int k)) (ho : o.op = .convert s t x)
    (hv : repV E (.d (.int j y)) (a.eval x)) : OpDid P o a aw E n w ⟨.d (.int k (k.wrap y)), [], 0, True⟩ := by
  simp only [repV, repD] at hv
  obtain ⟨d, hd⟩ := hs
  refine OpDid.pure hW (v := .int k (k.wrap y)) (exec_value (convert s t (a.eval x)) (by unfold execOp; simp only [ho]) ?_) rfl (by simp [repV, repD])
  rw [hv]
  simp [convert, run_underlying hd, run_underlying ht, Conv.intToInt]

theorem eqGuard_int (op : BinOp) (t : TypeId) (x y : Operand) (j k : IntKind) (a b : Int) : (eqGuard op t x y (.int j a) (.int k b)).run P w = .ok () w := by
  cases op <;> simp [eqGuard]
theorem eqGuard_bool (op : BinOp) (t : TypeId) (x y : Operand) (a b : Bool) : (eqGuard op t x y (.bool a) (.bool b)).run P w = .ok () w := by
  cases op <;> simp [eqGuard]

theorem op_bin (hW : WR w0 M E aw n w) {o : Oper} {a : Act} {t t' : TypeId} {b : BinOp} {x y : Operand} (ho : o.op = .binOp b t x y t') {v u : V} (hv : repV E v (a.eval x)) (hu : repV E u (a.eval y)) {r : Res}
    (h : rBin std b v u = some r) (hs : r.side) (hb : ∀ z, v = .d (.bool z) → P.underlying t = some .bool) : OpDid P o a aw E n w r := by
  have run : ∀ z, (do eqGuard b t x y (a.eval x) (a.eval y); binOp b t (a.eval x) (a.eval y) : Sem Value).run P w = .ok z w → (execOp a.eval o).run P w = .ok (.value z) w :=
    fun z hz => exec_value _ (by unfold execOp; simp only [ho]) hz
  unfold rBin at h
  split at h
  · rename_i j c k d
    simp only [repV, repD] at hv hu
    rw [hv, hu] at run
    simp only [Sem.run_bind, eqGuard_int, Result.andThen_ok] at run
    cases b
    case add =>
      simp only [cond_eq_ite, decide_eq_true_eq] at h
      split at h
      · rename_i e
        cases h
        subst e
        exact OpDid.pure hW (v := .int j (binI .add j c d)) (run _ (by simp only [binOp, ne_eq, not_true_eq_false, if_false]; rfl)) rfl (by simp only [repV, repD, std])
      · cases h
    case sub =>
      simp only [cond_eq_ite, decide_eq_true_eq] at h
      split at h
      · rename_i e
        cases h
        subst e
        exact OpDid.pure hW (v := .int j (binI .sub j c d)) (run _ (by simp only [binOp, ne_eq, not_true_eq_false, if_false]; rfl)) rfl (by simp only [repV, repD, std])
      · cases h
    case mul =>
      simp only [cond_eq_ite, decide_eq_true_eq] at h
      split at h
      · rename_i e
        cases h
        subst e
        exact OpDid.pure hW (v := .int j (binI .mul j c d)) (run _ (by simp only [binOp, ne_eq, not_true_eq_false, if_false]; rfl)) rfl (by simp only [repV, repD, std])
      · cases h
    case and =>
      simp only [cond_eq_ite, decide_eq_true_eq] at h
      split at h
      · rename_i e
        cases h
        subst e
        exact OpDid.pure hW (v := .int j (binI .and j c d)) (run _ (by simp only [binOp, ne_eq, not_true_eq_false, if_false]; rfl)) rfl (by simp only [repV, repD, std])
      · cases h
    case or =>
      simp only [cond_eq_ite, decide_eq_true_eq] at h
      split at h
      · rename_i e
        cases h
        subst e
        exact OpDid.pure hW (v := .int j (binI .or j c d)) (run _ (by simp only [binOp, ne_eq, not_true_eq_false, if_false]; rfl)) rfl (by simp only [repV, repD, std])
      · cases h
    case xor =>
      simp only [cond_eq_ite, decide_eq_true_eq] at h
      split at h
      · rename_i e
        cases h
        subst e
        exact OpDid.pure hW (v := .int j (binI .xor j c d)) (run _ (by simp only [binOp, ne_eq, not_true_eq_false, if_false]; rfl)) rfl (by simp only [repV, repD, std])
      · cases h
    case andNot =>
      simp only [cond_eq_ite, decide_eq_true_eq] at h
      split at h
      · rename_i e
        cases h
        subst e
        exact OpDid.pure hW (v := .int j (binI .andNot j c d)) (run _ (by simp only [binOp, ne_eq, not_true_eq_false, if_false]; rfl)) rfl (by simp only [repV, repD, std])
      · cases h
    case quo =>
      simp only [cond_eq_ite, decide_eq_true_eq] at h
      split at h
      · rename_i e
        cases h
        subst e
        have hz : d ≠ 0 := hs
        exact OpDid.pure hW (v := .int j (binI .quo j c d)) (run _ (by simp only [binOp, ne_eq, not_true_eq_false, if_false, Op.intDiv, if_neg hz]; rfl)) rfl (by simp only [repV, repD, std])
      · cases h
    case rem =>
      simp only [cond_eq_ite, decide_eq_true_eq] at h
      split at h
      · rename_i e
        cases h
        subst e
        have hz : d ≠ 0 := hs
        exact OpDid.pure hW (v := .int j (binI .rem j c d)) (run _ (by simp only [binOp, ne_eq, not_true_eq_false, if_false, Op.intDiv, if_neg hz]; rfl)) rfl (by simp only [repV, repD, std])
      · cases h
    case eql =>
      simp only [cond_eq_ite, decide_eq_true_eq] at h
      split at h
      · rename_i e
        cases h
        subst e
        exact OpDid.pure hW (v := .bool (cmpI .eql c d)) (run _ (by simp only [binOp, ne_eq, not_true_eq_false, if_false]; rfl)) rfl (by simp only [repV, repD, std])
      · cases h
    case neq =>
      simp only [cond_eq_ite, decide_eq_true_eq] at h
      split at h
      · rename_i e
        cases h
        subst e
        exact OpDid.pure hW (v := .bool (cmpI .neq c d)) (run _ (by simp only [binOp, ne_eq, not_true_eq_false, if_false]; rfl)) rfl (by simp only [repV, repD, std])
      · cases h
    case lss =>
      simp only [cond_eq_ite, decide_eq_true_eq] at h
      split at h
      · rename_i e
        cases h
        subst e
        exact OpDid.pure hW (v := .bool (cmpI .lss c d)) (run _ (by simp only [binOp, ne_eq, not_true_eq_false, if_false]; rfl)) rfl (by simp only [repV, repD, std])
      · cases h
    case shl =>
      cases h
      have hd : ¬ d < 0 := fun e => absurd hs.1 (by omega)
      exact OpDid.pure hW (v := .int j (binI .shl j c d)) (run _ (by simp only [binOp, Op.shift, hd, if_false]; rfl)) rfl (by simp only [repV, repD, std])
    case shr =>
      cases h
      have hd : ¬ d < 0 := fun e => absurd hs.1 (by omega)
      exact OpDid.pure hW (v := .int j (binI .shr j c d)) (run _ (by simp only [binOp, Op.shift, hd, if_false]; rfl)) rfl (by simp only [repV, repD, std])
    case leq =>
      simp only [cond_eq_ite, decide_eq_true_eq] at h
      split at h
      · rename_i e
        cases h
        subst e
        exact OpDid.pure hW (v := .bool (cmpI .leq c d)) (run _ (by simp only [binOp, ne_eq, not_true_eq_false, if_false]; rfl)) rfl (by simp only [repV, repD, std])
      · cases h
    case gtr =>
      simp only [cond_eq_ite, decide_eq_true_eq] at h
      split at h
      · rename_i e
        cases h
        subst e
        exact OpDid.pure hW (v := .bool (cmpI .gtr c d)) (run _ (by simp only [binOp, ne_eq, not_true_eq_false, if_false]; rfl)) rfl (by simp only [repV, repD, std])
      · cases h
    case geq =>
      simp only [cond_eq_ite, decide_eq_true_eq] at h
      split at h
      · rename_i e
        cases h
        subst e
        exact OpDid.pure hW (v := .bool (cmpI .geq c d)) (run _ (by simp only [binOp, ne_eq, not_true_eq_false, if_false]; rfl)) rfl (by simp only [repV, repD, std])
      · cases h
    all_goals cases h
  · rename_i c d
    have hu' := hb _ rfl
    simp only [repV, repD] at hv hu
    rw [hv, hu] at run
    simp only [Sem.run_bind, eqGuard_bool, Result.andThen_ok] at run
    cases b
    case eql => cases h; exact OpDid.pure hW (v := .bool (c == d)) (run _ (by simp only [binOp, Sem.run_bind, run_equal_bool (P := P) _ t c d hu', Result.andThen_ok]; rfl)) rfl (by simp only [repV, repD, std])
    case neq => cases h; exact OpDid.pure hW (v := .bool (!(c == d))) (run _ (by simp only [binOp, Sem.run_bind, run_equal_bool (P := P) _ t c d hu', Result.andThen_ok]; rfl)) rfl (by simp only [repV, repD, std])
    all_goals cases h
  · cases h

theorem op_field (hW : WR w0 M E aw n w) {o : Oper} {a : Act} {t ft : TypeId} {f off : Nat} {ti tf : TI} {fs : List (Nat × TypeId)} {x : Operand} (hT : TIok P t ti) (hF : TIok P ft tf) (hd : ti.td = .struct fs) (hf : offOf fs f = some (off, ft)) (ho : o.op = .field t x f)
    {v : V} (hv : repV E v (a.eval x)) {r : Res} (h : rField off tf v = some r) : OpDid P o a aw E n w r := by
  obtain ⟨gs, hu, hfs, _⟩ := hT.struct hd
  obtain ⟨g, hg, rfl, rfl⟩ := fsEq_get _ _ hfs _ _ _ hf
  have hg' : gs[f]? = some g := by simpa using hg
  unfold rField at h
  split at h
  · rename_i l
    simp only [repV] at hv
    obtain ⟨cs, hv, hc⟩ := hv
    split at h
    · rename_i c hcut
      obtain ⟨h1, h2⟩ := cut_rep _ _ _ _ hcut _ hc
      split at h
      · rename_i z hz
        cases h
        have hl := repC_len _ _ h2
        rcases asVal_rep hz h2 with ⟨h3, h4⟩ | ⟨h3, u, h4, h5⟩
        · refine OpDid.pure hW (exec_value (Instr.field t (a.eval x) f) (by unfold execOp; simp only [ho]) ?_) rfl h4
          rw [hv]
          simp [Instr.field, run_underlying hu, hg', asAgg, part, hF.isAgg, hF.sizeOf, h3]
          apply Array.toList_inj.1
          simp
        · refine OpDid.pure hW (exec_value (Instr.field t (a.eval x) f) (by unfold execOp; simp only [ho]) ?_) rfl h5
          rw [hv]
          have h6 : cs[g.offset]? = some u := by
            have : (cs.toList.drop g.offset |>.take tf.size)[0]? = some u := by rw [h4]; rfl
            rw [List.getElem?_take] at this
            split at this
            · simpa using this
            · cases this
          simp [Instr.field, run_underlying hu, hg', asAgg, part, hF.isAgg, h3, h6]
      · cases h
    · cases h
  · cases h

theorem op_fieldAddr (hW : WR w0 M E aw n w) {o : Oper} {a : Act} {t ft : TypeId} {f off : Nat} {ti tf : TI} {fs : List (Nat × TypeId)} {x : Operand} (hT : TIok P t ti) (hF : TIok P ft tf) (hd : ti.td = .struct fs) (hf : offOf fs f = some (off, ft)) (hz : tf.size ≠ 0)
    (ho : o.op = .fieldAddr t x f) {v : V} (hv : repV E v (a.eval x)) {r : Res} (h : rFieldAddr std off v = some r) : OpDid P o a aw E n w r := by
  obtain ⟨gs, hu, hfs, _⟩ := hT.struct hd
  obtain ⟨g, hg, rfl, rfl⟩ := fsEq_get _ _ hfs _ _ _ hf
  have hg' : gs[f]? = some g := by simpa using hg
  have run : ∀ p : Addr, a.eval x = .pointer (some p) → (execOp a.eval o).run P w = .ok (.value (.pointer (some (p.add g.offset)))) w := by
    intro p hp
    refine exec_value (Instr.fieldAt t (a.eval x) f) (by unfold execOp; simp only [ho]) ?_
    rw [hp]
    simp [Instr.fieldAt, run_underlying hu, hg', Instr.sureAddr, fieldPlace, hF.sizeOf, hz]
  unfold rFieldAddr at h
  split at h
  · cases h
    simp only [repV] at hv
    obtain ⟨b, h1, h2⟩ := hv
    refine OpDid.pure hW (run _ h2) rfl ?_
    rw [add_lit]
    simp only [repV]; exact ⟨b, h1, rfl⟩
  · cases h
    simp only [repV] at hv
    obtain ⟨b, h1, h2⟩ := hv
    refine OpDid.pure hW (run _ h2) rfl ?_
    rw [add_lit]
    simp only [repV]; exact ⟨b, h1, rfl⟩
  · cases h
    simp only [repV] at hv
    obtain ⟨p, c, e, fz, base, h1, h2, h3, h4, h5⟩ := hv
    refine OpDid.pure hW (run _ h1) rfl ?_
    obtain ⟨pb, po, ps⟩ := p
    simp only at h2 h4; subst h2
    rw [add_lit]
    simp only [repV]
    refine ⟨_, c, e, fz, base, rfl, rfl, h3, ?_, h5⟩
    show po + g.offset = base + (_ + g.offset)
    omega
  · rename_i id s m k i j
    cases h
    simp only [repV] at hv
    obtain ⟨hi, b, h1, h2⟩ := hv
    refine OpDid.pure hW (run _ h2) rfl ?_
    rw [add_lit]
    simp only [repV]
    exact ⟨hi, b, h1, by rw [show s + i * k + j + g.offset = s + i * k + Nat.add j g.offset by show _ = s + i * k + (j + g.offset); omega]⟩
  · cases h
end
end Go.AX

namespace Go.AX
set_option autoImplicit false
set_option linter.unusedVariables false

section
variable {P : Program} {w0 : World} {M : Nat → Prop} {E : Emb} {aw : List (Nat × Blk)} {n : Nat} {w : World}

theorem asInt'_eq {x : Operand} {c : Nat} (h : asInt' x = some c) : ∃ k, x = .const (.int k (c : Int)) := by
  unfold asInt' at h
  split at h
  · rename_i k n; cases h; exact ⟨k, rfl⟩
  · cases h

theorem litIx_eq {m : Nat} {x : Operand} : ∀ c, litIx m x = some c → asInt' x = some c := by
  intro c h
  unfold litIx at h
  rw [cond_eq_ite] at h
  split at h
  · cases h
  · exact h

theorem op_indexAddr (hW : WR w0 M E aw n w) {o : Oper} {a : Act} {t e : TypeId} {te : TI} {arr lt : Option Nat} {x ix : Operand} (hlt' : ∀ c, lt = some c → asInt' ix = some c) (hE : TIok P e te)
    (hu : match arr with | some m => P.underlying t = some (.array m e) | none => P.underlying t = some (.slice e))
    (ho : o.op = .indexAddr t x ix) {v i : V} (hv : repV E v (a.eval x)) (hi : repV E i (a.eval ix)) {r : Res} (h : rIndexAddr std arr te.size v lt i = some r) (hs : r.side) : OpDid P o a aw E n w r := by
  unfold rIndexAddr at h
  split at h
  case h_2 => cases h
  rename_i ik c
  simp only [repV, repD] at hi
  have runArr : ∀ (m : Nat) (p : Addr), arr = some m → a.eval x = .pointer (some p) → 0 ≤ c → c < (m : Int) → (execOp a.eval o).run P w = .ok (.value (.pointer (some (p.add (c.toNat * te.size))))) w := by
    intro m p ha hp h0 h1
    subst ha
    refine exec_value (Instr.indexAt t (a.eval x) (a.eval ix)) (by unfold execOp; simp only [ho]) ?_
    rw [hp, hi]
    simp [Instr.indexAt, asIntOf, run_underlying hu, Instr.sureAddr, h0, h1, hE.sizeOf]
  have runSl : ∀ (p : Addr) (len cap : Nat), arr = none → a.eval x = .slice (some p) len cap → 0 ≤ c → c < (len : Int) → (execOp a.eval o).run P w = .ok (.value (.pointer (some (p.add (c.toNat * te.size))))) w := by
    intro p len cap ha hp h0 h1
    subst ha
    refine exec_value (Instr.indexAt t (a.eval x) (a.eval ix)) (by unfold execOp; simp only [ho]) ?_
    rw [hp, hi]
    simp [Instr.indexAt, asIntOf, run_underlying hu, h0, h1, hE.sizeOf]
  split at h
  · rename_i m
    split at h
    · rename_i id off c'
      simp only [cond_eq_ite] at h
      split at h
      · rename_i hlt
        cases h
        obtain ⟨k, hk⟩ := asInt'_eq (hlt' _ rfl)
        have hc : c = (c' : Int) := by
          rw [hk] at hi
          simp only [Act.eval, Value.int.injEq] at hi
          exact hi.2.symm
        have hlt : c' < m := by simpa using hlt
        simp only [repV] at hv
        obtain ⟨b, h1, h2⟩ := hv
        refine OpDid.pure hW (runArr m _ rfl h2 (by omega) (by omega)) rfl ?_
        rw [add_lit, hc]
        simp only [repV]; exact ⟨b, h1, rfl⟩
      · cases h
    · cases h
      obtain ⟨h3, h4⟩ := hs
      simp only [repV] at hv
      obtain ⟨b, h1, h2⟩ := hv
      refine OpDid.pure hW (runArr m _ rfl h2 h3 h4) rfl ?_
      rw [add_lit]
      simp only [repV]
      refine ⟨?_, b, h1, rfl⟩
      show c.toNat < m
      omega
    · cases h
      obtain ⟨h3, h4⟩ := hs
      simp only [repV] at hv
      obtain ⟨b, h1, h2⟩ := hv
      refine OpDid.pure hW (runArr m _ rfl h2 h3 h4) rfl ?_
      rw [add_lit]
      simp only [repV]; exact ⟨b, h1, rfl⟩
    · cases h
      obtain ⟨h3, h4⟩ := hs
      simp only [repV] at hv
      obtain ⟨p, cc, ee, fz, base, h1, h2, h5, h6, h7⟩ := hv
      refine OpDid.pure hW (runArr m _ rfl h1 h3 h4) rfl ?_
      obtain ⟨pb, po, ps⟩ := p
      simp only at h2 h6; subst h2
      rw [add_lit]
      simp only [repV]
      refine ⟨_, cc, ee, fz, base, rfl, rfl, h5, ?_, h7⟩
      show po + c.toNat * te.size = base + (_ + c.toNat * te.size)
      omega
    · cases h
  · split at h
    · rename_i id len k'
      simp only [cond_eq_ite] at h
      split at h
      · cases h
        obtain ⟨h3, h4⟩ := hs
        simp only [repV] at hv
        rcases hv with ⟨_, h1, _⟩ | ⟨b, cap, h1, h2, _⟩
        · subst h1; simp at h4; omega
        refine OpDid.pure hW (runSl _ _ _ rfl h2 h3 h4) rfl ?_
        rw [add_lit]
        simp only [repV]; exact ⟨b, h1, rfl⟩
      · cases h
    · rename_i id off len k'
      simp only [cond_eq_ite] at h
      split at h
      · cases h
        obtain ⟨h3, h4⟩ := hs
        simp only [repV] at hv
        obtain ⟨b, cap, o', h1, h2, h5, h6⟩ := hv
        have : o' = off := h6 (by omega)
        subst this
        refine OpDid.pure hW (runSl _ _ _ rfl h2 h3 h4) rfl ?_
        rw [add_lit]
        simp only [repV]; exact ⟨b, h1, rfl⟩
      · cases h
    · rename_i id s m k' len
      simp only [cond_eq_ite] at h
      split at h
      · rename_i hk
        cases h
        obtain ⟨h3, h4⟩ := hs
        simp only [repV] at hv
        obtain ⟨b, cap, o', h1, h2, h5, h6, _⟩ := hv
        have : o' = s := h6 (by omega)
        subst this
        refine OpDid.pure hW (runSl _ _ _ rfl h2 h3 h4) rfl ?_
        rw [add_lit]
        simp only [repV]
        refine ⟨?_, b, h1, rfl⟩
        show c.toNat < m
        omega
      · cases h
    · rename_i l len
      cases h
      obtain ⟨h3, h4⟩ := hs
      simp only [repV, repD] at hv
      obtain ⟨p, cap, h1, _, h2⟩ := hv
      rcases h2 with h2 | ⟨p, cc, ee, fz, h2, h5, h6, h7⟩
      · subst h2; simp at h4; omega
      subst h2
      refine OpDid.pure hW (runSl _ _ _ rfl h1 h3 h4) rfl ?_
      obtain ⟨pb, po, ps⟩ := p
      simp only at h5 h7; subst h5
      rw [add_lit]
      simp only [repV]
      refine ⟨_, cc, ee, fz, po, rfl, rfl, h6, ?_, h7⟩
      show po + c.toNat * te.size = po + (0 + c.toNat * te.size)
      omega
    · cases h
theorem row_of {id : Nat} {l : List D} {k : Nat} {e : TypeId} (h : BlkOK E id w (.row l k e)) {b : Nat} (hb : E.ρ id = some (some b)) :
    ∃ c, w.heap[b]? = some (.cells c e (0, 0)) ∧ c.size = E.κ id ∧ (∀ x ∈ c.toList, x.oneCell' = true) ∧ repDs E.H l c.toList := by
  rcases h with ⟨h1, _⟩ | ⟨b', c, h1, h2, h3, h4, h5⟩
  · rw [h1] at hb; cases hb
  · rw [h1] at hb; cases hb; exact ⟨c, h2, h3, h4, h5⟩

theorem cells_at {b o : Nat} {c : Array Value} {e : TypeId} {fz : Nat × Nat} (hb : w.heap[b]? = some (.cells c e fz)) (q : Nat) :
    ∀ j u, ((c.toList.drop o).take q)[j]? = some u → w.cell? ((⟨b, o, none⟩ : Addr).add j) = some u := by
  intro j u hu
  rw [add_lit, cell_of_row w b (o + j) c e fz hb]
  rw [List.getElem?_take, List.getElem?_drop] at hu
  split at hu
  · simpa using hu
  · cases hu

theorem repDs_one {H : Nat → Option Obj} {ds : List D} {vs : List Value} (h : repDs H ds vs) (hl : ds.length = vs.length) : ∀ x ∈ vs, x.oneCell' = true := by
  intro x hx
  obtain ⟨i, hi⟩ := List.mem_iff_getElem?.1 hx
  have hil : i < ds.length := by have := (List.getElem?_eq_some_iff.1 hi).1; omega
  obtain ⟨u, hu, hr⟩ := repDs_get _ _ h i ds[i] (by simp [hil])
  rw [hi] at hu; cases hu
  exact repD_one _ _ hr

theorem coverD_rep {E : Emb} {l : List V} {s z p n : Nat} {d : List D} (h : coverD l s z = some (p, n, d)) {cs : List Value} (hc : repC E l cs) : p ≤ s ∧ s + z ≤ p + n ∧ p + n ≤ cs.length ∧ repDs E.H d ((cs.drop p).take n) ∧ d.length = n := by
  unfold coverD at h
  split at h
  · rename_i p' n' hcov
    split at h
    · rename_i n2 d' hcut
      simp only [cond_eq_ite, Bool.and_eq_true] at h
      split at h
      · rename_i hk
        obtain ⟨⟨k1, k2⟩, k3⟩ := hk
        have k1 := Nat.eq_of_beq_eq_true k1
        have k2 := Nat.le_of_ble_eq_true k2
        have k3 : s + z ≤ p' + n' := Nat.le_of_ble_eq_true k3
        cases h
        obtain ⟨c1, c2⟩ := cut_rep _ _ _ _ hcut _ hc
        simp only [repC] at c2
        rcases c2 with ⟨q', d2, xs, ys, e1, e2, e3, e4, e5, e6⟩ | ⟨uu, us, _, _, e3, _⟩
        case inr => simp only [repV] at e3
        cases e1
        subst e6
        rw [List.append_nil] at e2
        exact ⟨k2, k3, c1, by rw [e2]; exact e5, by omega⟩
      · cases h
    · cases h
  · cases h

theorem seen_rep (hW : WR w0 M E aw n w) {k : Nat} {x : V} {vx : Value} (hx : repV E x vx) {b : Option Blk} (hb : ∀ i y, x.id? = some i → b = some y → look aw i = some y)
    {ds : List D} {m : Nat} {p : Prop} (h : seen std k x b = some (ds, m, p)) (hp : p) :
    ∃ xa c news, vx = .slice xa m c ∧ news.length = m * k ∧ repDs E.H ds news ∧ ds.length = m * k ∧ (m = 0 ∨ ∃ q, xa = some q ∧ ∀ j u, news[j]? = some u → w.cell? (q.add j) = some u) := by
  unfold seen at h
  split at h
  · rename_i l n'
    cases h
    have hp : m * k ≤ l.length := hp
    simp only [repV, repD] at hx
    obtain ⟨a, cap, rfl, _, h1⟩ := hx
    rcases h1 with rfl | ⟨q, c, e, fz, rfl, h2, h3, h4⟩
    · exact ⟨a, cap, [], rfl, by simp, by simp [std, repDs], by simp [std], .inl rfl⟩
    · have hl := repDs_len _ _ h4
      obtain ⟨qb, qo, qs⟩ := q
      simp only at h2 h4 hl; subst h2
      exact ⟨_, cap, (c.toList.drop qo).take (m * k), rfl, by rw [List.length_take]; omega, repDs_take h4 _, by show (l.take (m * k)).length = _; rw [List.length_take]; omega, .inr ⟨_, rfl, cells_at (hW.ro _ _ h3) _⟩⟩
  · cases h
    simp only [repV, repD] at hx
    subst hx
    exact ⟨none, 0, [], rfl, by simp, by simp [repDs], by simp, .inl rfl⟩
  · rename_i id n' k' l k2 e2
    simp only [cond_eq_ite] at h
    split at h
    · rename_i hk
      cases h
      have hp : m * k ≤ l.length := hp
      have hbk := hW.blk _ _ (hb id _ rfl rfl)
      simp only [repV] at hx
      rcases hx with ⟨h1, rfl, rfl⟩ | ⟨b', cap, h1, rfl, _⟩
      · exact ⟨none, 0, [], rfl, by simp, by simp [std, repDs], by simp [std], .inl rfl⟩
      · obtain ⟨c, h2, h3, h4, h5⟩ := row_of hbk h1
        have hl := repDs_len _ _ h5
        exact ⟨_, cap, (c.toList.drop 0).take (m * k), rfl, by rw [List.drop_zero, List.length_take]; omega, by rw [List.drop_zero]; exact repDs_take h5 _, by show (l.take (m * k)).length = _; rw [List.length_take]; omega, .inr ⟨_, rfl, cells_at h2 _⟩⟩
    · cases h
  · rename_i id off n' k' l k2 e2
    simp only [cond_eq_ite] at h
    split at h
    · rename_i hk
      cases h
      have hp : off + m * k ≤ l.length := hp
      have hbk := hW.blk _ _ (hb id _ rfl rfl)
      simp only [repV] at hx
      obtain ⟨b', cap, o, h1, rfl, h2, h3⟩ := hx
      by_cases hm : m = 0
      · subst hm
        exact ⟨_, cap, [], rfl, by simp, by simp [std, repDs], by simp [std], .inl rfl⟩
      · have := h3 hm; subst this
        obtain ⟨c, h4, h5, h6, h7⟩ := row_of hbk h1
        have hl := repDs_len _ _ h7
        exact ⟨_, cap, (c.toList.drop o).take (m * k), rfl, by rw [List.length_take, List.length_drop]; omega, repDs_take (repDs_drop h7 _) _, by show ((l.drop o).take (m * k)).length = _; rw [List.length_take, List.length_drop]; omega, .inr ⟨_, rfl, cells_at h4 _⟩⟩
    · cases h
  · rename_i id s m' k' n' l
    simp only [cond_eq_ite] at h
    split at h
    · rename_i hk
      split at h
      · rename_i c hc
        split at h
        · rename_i ds' hd
          cases h
          obtain ⟨b', c', e', h1, h2, h3⟩ := hW.blk _ _ (hb id _ rfl rfl)
          obtain ⟨h5, h6⟩ := cut_rep _ _ _ _ hc _ h3
          obtain ⟨h7, h8⟩ := flatD_rep hd h6
          have hmk : Nat.mul m' k = m' * k := rfl
          rw [hmk] at h5 h7 h8
          simp only [repV] at hx
          obtain ⟨b2, cap, o, h9, rfl, h10, h11, _⟩ := hx
          rw [h1] at h9; cases h9
          have hle : m * k ≤ m' * k := Nat.mul_le_mul_right _ h10
          by_cases hm : m = 0
          · subst hm
            exact ⟨_, cap, [], rfl, by simp, by simp [std, repDs], by simp [std], .inl rfl⟩
          · have := h11 hm; subst this
            refine ⟨_, cap, (c'.toList.drop o).take (m * k), rfl, by rw [List.length_take, List.length_drop]; omega, ?_, ?_, .inr ⟨_, rfl, cells_at h2 _⟩⟩
            · have := repDs_take h7 (m * k)
              rw [List.take_take, Nat.min_eq_left hle] at this
              exact this
            · show (ds'.take (m * k)).length = _
              rw [List.length_take, h8, List.length_take, List.length_drop]; omega
        · cases h
      · split at h
        · rename_i p0 q0 d hcv
          cases h
          obtain ⟨b', c', e', h1, h2, h3⟩ := hW.blk _ _ (hb id _ rfl rfl)
          obtain ⟨f1, f2, f3, f4, f5⟩ := coverD_rep hcv h3
          have hmk : Nat.mul m' k = m' * k := rfl
          rw [hmk] at f2
          simp only [repV] at hx
          obtain ⟨b2, cap, o, h9, rfl, h10, h11, _⟩ := hx
          rw [h1] at h9; cases h9
          have hle : m * k ≤ m' * k := Nat.mul_le_mul_right _ h10
          by_cases hm : m = 0
          · subst hm
            exact ⟨_, cap, [], rfl, by simp, by simp [std, repDs], by simp [std], .inl rfl⟩
          · have := h11 hm; subst this
            have hss : p0 + (o - p0) = o := by omega
            refine ⟨_, cap, (c'.toList.drop o).take (m * k), rfl, by rw [List.length_take, List.length_drop]; omega, ?_, ?_, .inr ⟨_, rfl, cells_at h2 _⟩⟩
            · have := repDs_take (repDs_drop f4 (o - p0)) (m * k)
              rw [List.drop_take, List.drop_drop, List.take_take, hss, Nat.min_eq_left (by omega)] at this
              exact this
            · show ((d.drop (o - p0)).take (m * k)).length = _
              rw [List.length_take, List.length_drop, f5]; omega
        · cases h
    · cases h
  · cases h
end
end Go.AX

namespace Go.AX
set_option autoImplicit false
set_option linter.unusedVariables false

section
variable {P : Program} {w0 : World} {M : Nat → Prop} {E : Emb} {aw : List (Nat × Blk)} {n : Nat} {w : World}

theorem Did.fresh (hW : WR w0 M E aw n w) {x : Option Nat} {κ : Nat} {rest : List (Nat × Blk)} {blk : Blk} {val : V} {v : Value} {w' : World} {s : Prop} {row : Option Nat}
    (hrest : ∀ i y, look rest i = some y → y = .dead)
    (hx : ∀ b, x = some b → (w.heap.size ≤ b ∧ b < w'.heap.size) ∨ (∃ id y, E.ρ id = some (some b) ∧ look aw id = some y ∧ y.live = true ∧ look rest id = some .dead))
    (hg : w.grownBy w' row) (hrow : ∀ k, row = some k → ∃ id y, E.ρ id = some (some k) ∧ look aw id = some y ∧ y.live = true ∧ look rest id = some .dead)
    (hb : BlkOK (E.add n x κ) n w' blk) (hv : repV (E.add n x κ) val v) (hd : w.drawn ≤ w'.drawn := by first | assumption | exact Nat.le_refl _ | exact Nat.le_succ _ | exact Nat.le_add_right _ _) : Did aw E n w ⟨val, (n, blk) :: rest, 1, s⟩ (E.add n x κ) w' v := by
  have hn := hW.none_n
  have down : ∀ j y, look ((n, blk) :: rest ++ aw) j = some y → y.live = true → j ≠ n → look aw j = some y ∧ look rest j = none := by
    intro j y h1 h2 h3
    rw [List.cons_append, look_cons, if_neg (Ne.symm h3), look_append] at h1
    cases hl : look rest j with
    | none => rw [hl] at h1; exact ⟨h1, rfl⟩
    | some z =>
      rw [hl] at h1
      cases h1
      rw [hrest _ _ hl] at h2; cases h2
  have clash : ∀ j y b, look ((n, blk) :: rest ++ aw) j = some y → y.live = true → j ≠ n → x = some b → E.ρ j = some (some b) → False := by
    intro j y b h1 h2 h3 h4 h5
    obtain ⟨h6, h7⟩ := down j y h1 h2 h3
    rcases hx b h4 with ⟨h8, _⟩ | ⟨id, z, h8, h9, h10, h11⟩
    · have := (hW.dom j b h5).1; omega
    · have := hW.inj id j b z y h9 h10 h6 h2 h8 h5
      subst this
      rw [h7] at h11; cases h11
  refine ⟨Emb.le_add hn, fun b o h => .inl h, ?_, ?_, ?_, ⟨_, GrownS.of hg, ?_⟩, ?_, hv⟩
  · intro i y hy
    by_cases e : i = n
    · subst e
      rw [Emb.add_new] at hy
      cases hy
      refine .inr ⟨Nat.le_refl _, Nat.lt_succ_self _, fun b hb => ?_⟩
      rcases hx b hb with h | ⟨id, _, h, _⟩
      · exact .inl h
      · exact .inr ⟨id, h⟩
    · rw [Emb.add_ne e] at hy; exact .inl hy
  · intro i y b h1 h2 h3
    by_cases e : i = n
    · subst e
      rw [Emb.add_new] at h3; cases h3
      rcases hx b rfl with ⟨h4, _⟩ | ⟨id, z, h4, h5, h6, _⟩
      · cases hH : E.H b with
        | none => exact hH
        | some o => have := (Array.getElem?_eq_some_iff.1 (hW.ro b o hH)).1; omega
      · exact hW.own id z b h5 h6 h4
    · rw [Emb.add_ne e] at h3
      exact hW.own i y b (down i y h1 h2 e).1 h2 h3
  · intro i j b y z h1 h2 h3 h4 h5 h6
    by_cases ei : i = n <;> by_cases ej : j = n
    · rw [ei, ej]
    · rw [ei, Emb.add_new] at h5; cases h5
      rw [Emb.add_ne ej] at h6
      exact (clash j z b h3 h4 ej rfl h6).elim
    · rw [ej, Emb.add_new] at h6; cases h6
      rw [Emb.add_ne ei] at h5
      exact (clash i y b h1 h2 ei rfl h5).elim
    · rw [Emb.add_ne ei] at h5
      rw [Emb.add_ne ej] at h6
      exact hW.inj i j b y z (down i y h1 h2 ei).1 h2 (down j z h3 h4 ej).1 h4 h5 h6
  · intro k hk
    obtain ⟨id, y, h1, h2, h3, h4⟩ := hrow k hk
    have : id ≠ n := by rintro rfl; rw [hn] at h1; cases h1
    exact ⟨id, y, h1, h2, h3, by show (look ((n, blk) :: rest) id).isSome = true; rw [look_cons, if_neg (Ne.symm this), h4]; rfl⟩
  · intro i b hi
    change look ((n, blk) :: rest) i = some b at hi
    rw [look_cons] at hi
    split at hi
    · rename_i e; cases hi; subst e; exact hb
    · rw [hrest _ _ hi]; trivial

theorem exec_builtin {o : Oper} {a : Act} {b : Builtin} {args : Array Operand} {ts : Array TypeId} (ho : o.op = .call ⟨.builtin b, args, ts⟩) :
    (execOp a.eval o).run P w = (builtin b ts o.type (args.map fun | .const _ => true | _ => false) (args.map a.eval)).run P w := by
  unfold execOp
  simp only [ho, resolve, invoke, Sem.run_bind, Sem.run_pure, Result.andThen_ok]
  rfl

theorem run_append_zero {t ty e : TypeId} {te : TI} (ht : P.underlying t = some (.slice e)) (hE : TIok P e te) (b : Option Addr) (len cap : Nat) (hc : len ≤ cap) (xa : Option Addr) (c : Nat) :
    (Builtin.append_ #[t, t] ty #[.slice b len cap, .slice xa 0 c]).run P w = .ok (.slice b len cap) w := by
  have h : ∀ x : Option Addr, (Builtin.firstCells te.size 0 (.slice x 0 c)).run P w = .ok #[] w := by
    intro x; cases x <;> simp [Builtin.firstCells, loadCells, loadCellsFrom]
  cases b <;> simp [Builtin.append_, run_underlying ht, hE.sizeOf, Builtin.lenOf, h, hc, storeCells]

theorem zeroCells_one {z : Array Value} (h : ∀ x ∈ z.toList, x.oneCell' = true) (m : Nat) : ∀ x ∈ Builtin.zeroCells z m, x.oneCell' = true := by
  intro x hx
  simp only [Builtin.zeroCells, Array.mem_map, Array.mem_range] at hx
  obtain ⟨i, hi, rfl⟩ := hx
  have hp : 0 < z.size := by
    rcases Nat.eq_zero_or_pos z.size with h0 | h0
    · rw [h0, Nat.mul_zero] at hi; omega
    · exact h0
  have hlt : i % z.size < z.size := Nat.mod_lt _ hp
  rw [getElem!_pos z _ hlt]
  exact h _ (by simp)

theorem blks_last {aw : List (Nat × Blk)} {v u : V} {bs : List Blk} (h : blks aw (ids [v, u]) = some bs) : ∀ i y, u.id? = some i → lastB bs = some y → look aw i = some y := by
  intro i y hi hy
  unfold ids at h
  cases hv : v.id? with
  | none =>
    simp only [hv, ids, hi] at h
    obtain ⟨b, h1, rfl⟩ := blks_one h
    cases hy; exact h1
  | some j =>
    simp only [hv, ids, hi, blks] at h
    split at h
    · rename_i b r h1 h2
      split at h2
      · rename_i b' r' h3 h4
        cases h4; cases h2; cases h
        cases hy; exact h3
      · cases h2
    · cases h

theorem op_append (hW : WR w0 M E aw n w) {o : Oper} {a : Act} {t e : TypeId} {te : TI} {x y : Operand} (ht : P.underlying t = some (.slice e)) (hE : TIok P e te) (hz : te.size ≠ 0)
    (ho : o.op = .call ⟨.builtin .append, #[x, y], #[t, t]⟩) {v u : V} (hv : repV E v (a.eval x)) (hu : repV E u (a.eval y)) {bs : List Blk} (hbs : blks aw (ids [v, u]) = some bs)
    {r : Res} (h : rAppend std te.size te.bytes e n v u bs = some r) (hs : r.side) : OpDid P o a aw E n w r := by
  obtain ⟨i, z, dd, hi, hsz, hby, hz', hzr, _, _, _, hzs, _⟩ := hE.info
  have hzr := repC_one _ _ (hzr E)
  have run : ∀ r w', (Builtin.append_ #[t, t] o.type #[a.eval x, a.eval y]).run P w = .ok r w' → (execOp a.eval o).run P w = .ok (.value r) w' := by
    intro r w' hr
    rw [exec_builtin ho]
    simp only [builtin, List.map_toArray, List.map_cons, List.map_nil, Sem.run_bind, hr, Result.andThen_ok, Sem.run_pure]
  -- the nil slice, and news
  have nilCase : a.eval x = .slice none 0 0 → ∀ (ds : List D) (m : Nat) (p : Prop) (rest : List (Nat × Blk)), seen std te.size u (lastB bs) = some (ds, m, p) → p → m * te.bytes ≤ 140737488355328 → m ≤ 4611686018427387904 →
      (∀ i y, look rest i = some y → y = .dead) → ∀ s, OpDid P o a aw E n w ⟨.own n m te.size, (n, .row ds te.size e) :: rest, 1, s⟩ := by
    intro hx ds m p rest hseen hp hb1 hb2 hrest s
    obtain ⟨xa, c, news, h1, h2, h3, h4, h5⟩ := seen_rep hW hu (blks_last hbs) hseen hp
    rcases Nat.eq_zero_or_pos m with rfl | hm
    · have hr := run_append_zero (P := P) (w := w) (ty := o.type) ht hE none 0 0 (Nat.le_refl _) xa c
      rw [← hx, ← h1] at hr
      have hd0 : ds = [] := List.eq_nil_of_length_eq_zero (by simpa using h4)
      subst hd0
      exact OpDid.value (run _ _ hr) (Did.fresh hW (x := none) (κ := 0) (row := none) hrest (fun b hb => by cases hb) (grownBy_refl w none) (fun k hk => by cases hk)
        (.inl ⟨Emb.add_new, rfl⟩) (by simp only [repV]; exact .inl ⟨Emb.add_new, by trivial, hx⟩))
    · rcases h5 with h5 | ⟨q, rfl, h6⟩
      · omega
      have hr := run_append_nil (P := P) w t o.type e i z ht hi hz' q m c news (by rw [hsz]; exact h2) h6 hm (by omega) (by rw [hby]; omega)
      rw [← hx, ← h1] at hr
      have hge := grownCap_ge w m 0 e
      have hcm := grownCap_le_maxLen w m 0 e (by unfold maxLen; omega)
      have hsize : (news.toArray ++ Builtin.zeroCells z.cells (grownCap w m 0 e - m)).size = grownCap w m 0 e * te.size := by
        simp only [Array.size_append, List.size_toArray, size_zeroCells, hzs, h2, ← Nat.add_mul]
        congr 1; omega
      have hlt : w.heap.size < (w.drew.alloc (.cells (news.toArray ++ Builtin.zeroCells z.cells (grownCap w m 0 e - m)) e)).heap.size := by show _ < (w.heap.push _).size; simp
      refine OpDid.value (run _ _ hr) (Did.fresh hW (x := some w.heap.size) (κ := grownCap w m 0 e * te.size) (row := none) hrest (fun b hb => .inl (by cases hb; exact ⟨Nat.le_refl _, hlt⟩)) ?_ (fun k hk => by cases hk) (.inr ⟨w.heap.size, _, Emb.add_new, heap_alloc_new w.drew _, by rw [Emb.add_κ, hsize], ?_, ?_⟩) ?_)
      · exact ⟨rfl, rfl, rfl, by show _ ≤ (w.heap.push _).size; simp, fun k hk _ => heap_alloc_old w.drew _ k hk⟩
      · intro x hx
        simp only [Array.toList_append, List.mem_append] at hx
        rcases hx with hx | hx
        · exact repDs_one h3 (by omega) x hx
        · exact zeroCells_one hzr _ x (by simpa using hx)
      · simp only [Array.toList_append]
        exact repDs_mono (Emb.le_add hW.none_n).2.2 _ _ (repDs_pre h3)
      · simp only [repV]
        exact .inr ⟨_, _, Emb.add_new, rfl, hge, hcm, Emb.add_κ⟩
  unfold rAppend at h
  split at h
  · simp only [repV, repD] at hv
    split at h
    · rename_i ds m p hseen
      cases h
      obtain ⟨hp, hb1, hb2⟩ := hs
      exact nilCase hv ds m p [] hseen hp hb1 hb2 (fun i y h => by cases h) _
    · cases h
  · rename_i id len k'
    split at h
    · rename_i l k2 e2 bs'
      simp only [cond_eq_ite, Bool.and_eq_true] at h
      split at h
      · rename_i hk
        have hk1 := Nat.eq_of_beq_eq_true hk.1
        have hk2 := Nat.eq_of_beq_eq_true hk.2
        subst hk1 hk2
        split at h
        · rename_i ds m p hseen
          cases h
          obtain ⟨hp, hb0, hb1, hb2⟩ := hs
          have hb0 : len * te.size ≤ l.length := hb0
          have hb1 : (len + m) * te.bytes ≤ 140737488355328 := hb1
          have hb2 : len + m ≤ 4611686018427387904 := hb2
          have hlook : look aw id = some (.row l k2 e) := by
            simp only [ids, V.id?, blks] at hbs
            split at hbs
            · rename_i b r' h1 h2; cases hbs; exact h1
            · cases hbs
          have hrest : ∀ i y, look [(id, Blk.dead)] i = some y → y = .dead := by
            intro i y h
            rw [look_cons] at h
            split at h
            · cases h; rfl
            · cases h
          have hbk := hW.blk _ _ hlook
          simp only [repV] at hv
          rcases hv with ⟨h1, rfl, hx⟩ | ⟨b, cap, h1, hx, hlc, hcm, hκ⟩
          · have hl0 : l = [] := by
              rcases hbk with ⟨_, h2⟩ | ⟨b', c, h2, _⟩
              · exact h2
              · rw [h1] at h2; cases h2
            subst hl0
            have := nilCase hx ds m p [(id, .dead)] hseen hp (by rw [← Nat.zero_add m]; exact hb1) (by omega) hrest (p ∧ std.leN (std.mulNat 0 te.size) (std.len []) ∧ std.leN (std.mulNat (std.add 0 m) te.bytes) 140737488355328 ∧ std.leN (std.add 0 m) 4611686018427387904)
            have e1 : std.add 0 m = m := Nat.zero_add m
            rw [e1]
            rw [e1] at this
            have e2 : std.app (std.take [] (std.mulNat 0 te.size)) ds = ds := by simp [std]
            rw [e2]
            exact this
          · obtain ⟨c, h2, h3, h4, h5⟩ := row_of hbk h1
            obtain ⟨xa, cc, news, g1, g2, g3, g4, g5⟩ := seen_rep hW hu (blks_last hbs) hseen hp
            have hll := repDs_len _ _ h5
            have hcs : c.size = cap * te.size := by rw [h3, hκ]
            have hl1 : (std.take l (std.mulNat len te.size)).length = len * te.size := by show (l.take (len * te.size)).length = _; rw [List.length_take]; omega
            have hrow0 : repDs E.H (std.take l (std.mulNat len te.size)) (c.toList.take (len * te.size)) := repDs_take h5 _
            have hdead : look [(id, Blk.dead)] id = some .dead := by rw [look_cons, if_pos rfl]
            have hin : ∀ b', some b = some b' → (w.heap.size ≤ b' ∧ b' < w.heap.size) ∨ (∃ id' y, E.ρ id' = some (some b') ∧ look aw id' = some y ∧ y.live = true ∧ look [(id, Blk.dead)] id' = some .dead) := by
              intro b' hb'; cases hb'; exact .inr ⟨id, _, h1, hlook, rfl, hdead⟩
            rcases Nat.eq_zero_or_pos m with rfl | hm
            · have hr := run_append_zero (P := P) (w := w) (ty := o.type) ht hE (some ⟨b, 0, none⟩) len cap hlc xa cc
              rw [← hx, ← g1] at hr
              have hd0 : ds = [] := List.eq_nil_of_length_eq_zero (by simpa using g4)
              subst hd0
              refine OpDid.value (run _ _ hr) (Did.fresh hW (x := some b) (κ := E.κ id) (row := none) hrest hin (grownBy_refl w none) (fun k hk => by cases hk) (.inr ⟨b, c, Emb.add_new, h2, by rw [Emb.add_κ, h3], h4, ?_⟩) ?_)
              · have : std.app (std.take l (std.mulNat len te.size)) [] = l.take (len * te.size) := by simp [std]
                rw [this]
                have := repDs_pre (us := c.toList.drop (len * te.size)) hrow0
                rw [List.take_append_drop] at this
                exact repDs_mono (Emb.le_add hW.none_n).2.2 _ _ this
              · simp only [repV]
                exact .inr ⟨b, cap, Emb.add_new, hx, hlc, hcm, by rw [Emb.add_κ, hκ]⟩
            · rcases g5 with g5 | ⟨q, rfl, g6⟩
              · omega
              have hone := repDs_one g3 (by omega)
              by_cases hroom : len + m ≤ cap
              · have hfit : len * te.size + news.length ≤ c.size := by rw [g2, hcs, ← Nat.add_mul]; exact Nat.mul_le_mul_right _ hroom
                have hr := run_append_room (P := P) w t o.type e i ht hi b len cap c h2 q m cc news (by rw [hsz]; exact g2) g6 hone hroom (by rw [hsz]; exact hfit)
                rw [← hx, ← g1, hsz] at hr
                refine OpDid.value (run _ _ hr) (Did.fresh hW (x := some b) (κ := E.κ id) (row := some b) hrest ?_ (grownBy_setRow w b _) ?_ (.inr ⟨b, _, Emb.add_new, setRow_heap w b c _ e _ h2, ?_, ?_, ?_⟩) ?_)
                · intro b' hb'
                  rw [setRow_size]
                  exact hin b' hb'
                · intro k hk; cases hk; exact ⟨id, _, h1, hlook, rfl, hdead⟩
                · rw [Emb.add_κ, ← h3]
                  simp only [List.size_toArray, List.length_append, List.length_take, List.length_drop, Array.length_toList]
                  omega
                · intro x hx
                  simp only [List.mem_append] at hx
                  rcases hx with (hx | hx) | hx
                  · exact h4 x (List.mem_of_mem_take hx)
                  · exact hone x hx
                  · exact h4 x (List.mem_of_mem_drop hx)
                · refine repDs_mono (Emb.le_add hW.none_n).2.2 _ _ ?_
                  exact repDs_pre (repDs_app hrow0 (by rw [hl1, List.length_take]; omega) g3)
                · simp only [repV]
                  exact .inr ⟨b, cap, Emb.add_new, rfl, hroom, hcm, by rw [Emb.add_κ, hκ]⟩
              · have hr := run_append_grow (P := P) w t o.type e i z ht hi hz' ⟨b, 0, none⟩ len cap ((c.toList.drop 0).take (len * te.size)) (by rw [hsz, List.drop_zero, List.length_take]; omega) (cells_at h2 _) q m cc news (by rw [hsz]; exact g2) g6 (by omega) (by omega)
                  (growslice_fits (by omega) (by rw [hby]; exact hb1))
                rw [← hx, ← g1, List.drop_zero] at hr
                have hge := grownCap_ge w (len + m) cap e
                have hcm2 := grownCap_le_maxLen w (len + m) cap e (by unfold maxLen; omega)
                have hsize : ((c.toList.take (len * te.size)).toArray ++ news.toArray ++ Builtin.zeroCells z.cells (grownCap w (len + m) cap e - (len + m))).size = grownCap w (len + m) cap e * te.size := by
                  simp only [Array.size_append, List.size_toArray, size_zeroCells, hzs, g2]
                  rw [show (c.toList.take (len * te.size)).length = len * te.size by rw [List.length_take]; omega, ← Nat.add_mul, ← Nat.add_mul]
                  congr 1; omega
                have hlt : w.heap.size < (w.drew.alloc (.cells ((c.toList.take (len * te.size)).toArray ++ news.toArray ++ Builtin.zeroCells z.cells (grownCap w (len + m) cap e - (len + m))) e)).heap.size := by show _ < (w.heap.push _).size; simp
                refine OpDid.value (run _ _ hr) (Did.fresh hW (x := some w.heap.size) (κ := grownCap w (len + m) cap e * te.size) (row := none) hrest (fun b hb => .inl (by cases hb; exact ⟨Nat.le_refl _, hlt⟩)) ?_ (fun k hk => by cases hk) (.inr ⟨w.heap.size, _, Emb.add_new, heap_alloc_new w.drew _, by rw [Emb.add_κ, hsize], ?_, ?_⟩) ?_)
                · exact ⟨rfl, rfl, rfl, by show _ ≤ (w.heap.push _).size; simp, fun k hk _ => heap_alloc_old w.drew _ k hk⟩
                · intro x hx
                  simp only [Array.toList_append, List.mem_append] at hx
                  rcases hx with (hx | hx) | hx
                  · exact h4 x (List.mem_of_mem_take hx)
                  · exact hone x hx
                  · exact zeroCells_one hzr _ x (by simpa using hx)
                · simp only [Array.toList_append]
                  refine repDs_mono (Emb.le_add hW.none_n).2.2 _ _ ?_
                  exact repDs_pre (repDs_app hrow0 (by rw [hl1, List.length_take]; omega) g3)
                · simp only [repV]
                  exact .inr ⟨_, _, Emb.add_new, rfl, hge, hcm2, Emb.add_κ⟩
        · cases h
      · cases h
    · cases h
  · cases h
end
end Go.AX

namespace Go.AX
set_option autoImplicit false
set_option linter.unusedVariables false

section
variable {P : Program} {w0 : World} {M : Nat → Prop} {E : Emb} {aw : List (Nat × Blk)} {n : Nat} {w : World}

theorem op_len (hW : WR w0 M E aw n w) {o : Oper} {a : Act} {t e : TypeId} {x : Operand} (ht : P.underlying t = some (.slice e))
    (ho : o.op = .call ⟨.builtin .len, #[x], #[t]⟩) {v : V} (hv : repV E v (a.eval x)) {r : Res} (h : rLen std v = some r) : OpDid P o a aw E n w r := by
  have run : ∀ b len cap, a.eval x = .slice b len cap → (execOp a.eval o).run P w = .ok (.value (.int .i64 (len : Int))) w := by
    intro b len cap hx
    rw [exec_builtin ho]
    simp [builtin, hx, Builtin.len_, run_underlying ht, goInt]
  unfold rLen at h
  split at h
  · cases h
    simp only [repV, repD] at hv
    obtain ⟨b, cap, h1, _⟩ := hv
    exact OpDid.pure hW (run _ _ _ h1) rfl (by simp [repV, repD, std])
  · cases h
    simp only [repV, repD] at hv
    exact OpDid.pure hW (run _ _ _ hv) rfl (by simp [repV, repD])
  · cases h
    simp only [repV] at hv
    rcases hv with ⟨_, rfl, h1⟩ | ⟨b, cap, h0, h1, _⟩
    · exact OpDid.pure hW (run _ _ _ h1) rfl (by simp [repV, repD, std])
    · exact OpDid.pure hW (run _ _ _ h1) rfl (by simp [repV, repD, std])
  · cases h
    simp only [repV] at hv
    obtain ⟨b, cap, oo, h0, h1, _⟩ := hv
    exact OpDid.pure hW (run _ _ _ h1) rfl (by simp [repV, repD, std])
  · cases h
    simp only [repV] at hv
    obtain ⟨b, cap, oo, h0, h1, _⟩ := hv
    exact OpDid.pure hW (run _ _ _ h1) rfl (by simp [repV, repD, std])
  · cases h

theorem nthV_rep : ∀ (l : List V) (i : Nat) (v : V), nthV l i = some v → ∀ vs, repVs E l vs → ∃ u, vs[i]? = some u ∧ repV E v u
  | [], _, _, h => by cases h
  | x :: t, i, v, h => by
    intro vs hvs
    simp only [repVs] at hvs
    obtain ⟨u, us, rfl, h1, h2⟩ := hvs
    cases i with
    | zero => cases h; exact ⟨u, rfl, h1⟩
    | succ i => simpa using nthV_rep t i v h us h2

theorem op_extract (hW : WR w0 M E aw n w) {o : Oper} {a : Act} {i : Nat} {x : Operand} (ho : o.op = .extract x i) {l : List V} (hv : repV E (.tup l) (a.eval x)) {v : V} (h : nthV l i = some v) :
    OpDid P o a aw E n w ⟨v, [], 0, True⟩ := by
  simp only [repV] at hv
  obtain ⟨cs, h1, h2⟩ := hv
  obtain ⟨u, h3, h4⟩ := nthV_rep _ _ _ h _ h2
  refine OpDid.pure hW (v := u) (exec_value (Instr.extract (a.eval x) i) (by unfold execOp; simp only [ho]) ?_) rfl h4
  rw [h1]
  have : cs[i]? = some u := by simpa using h3
  simp [Instr.extract, this]

theorem op_makeFunc (hW : WR w0 M E aw n w) {o : Oper} {a : Act} {f : FuncId} {first cap : Array Operand} (hf : first.size = 0) (ho : o.op = .makeFunc (.func f) first cap) {vs : List V} (hv : repVs E vs (cap.toList.map a.eval)) :
    OpDid P o a aw E n w ⟨.fn f vs, [], 0, True⟩ := by
  have : first = #[] := Array.eq_empty_of_size_eq_zero hf
  subst this
  refine OpDid.pure hW (exec_value (Instr.makeFunc (.func f) (#[].map a.eval) (cap.map a.eval)) (by unfold execOp; simp only [ho]) rfl) rfl ?_
  simp only [repV]
  exact ⟨cap.map a.eval, by simp, by simpa using hv⟩

theorem op_minmax (hW : WR w0 M E aw n w) {o : Oper} {a : Act} {mx : Bool} {ts : Array TypeId} {x y : Operand} (ho : o.op = .call ⟨.builtin (if mx then .max else .min), #[x, y], ts⟩) {u v : V} (hu : repV E u (a.eval x)) (hv : repV E v (a.eval y)) {r : Res} (h : rMinMax std mx [u, v] = some r) : OpDid P o a aw E n w r := by
  unfold rMinMax at h
  split at h
  · rename_i j c k d heq
    cases heq
    simp only [repV, repD] at hu hv
    simp only [cond_eq_ite, decide_eq_true_eq] at h
    split at h
    · rename_i e
      cases h
      subst e
      cases mx
      · refine OpDid.pure hW (v := .int j (if d < c then d else c)) ?_ rfl (by simp [repV, repD, std])
        rw [exec_builtin ho]
        simp [builtin, hu, hv, Builtin.min_, Builtin.min2]
      · refine OpDid.pure hW (v := .int j (if d > c then d else c)) ?_ rfl (by simp [repV, repD, std])
        rw [exec_builtin ho]
        simp [builtin, hu, hv, Builtin.max_, Builtin.max2]
    · cases h
  · cases h

theorem toNat_cast {c : Int} (h : 0 ≤ c) : ((c.toNat : Nat) : Int) = c := by omega

/-- A slice's part. -/
theorem run_slice_part {t e : TypeId} {te : TI} (ht : P.underlying t = some (.slice e)) (hE : TIok P e te) (b : Option Addr) (len cap l h : Nat) (hlh : l ≤ h) (hh : h ≤ len) (hc : len ≤ cap) (lo hi : Option Value)
    (hlo : (lo = none ∧ l = 0) ∨ ∃ k, lo = some (.int k (l : Int))) (hhi : (hi = none ∧ h = len) ∨ ∃ k, hi = some (.int k (h : Int))) :
    (Instr.sliceAt t (.slice b len cap) lo hi none).run P w = .ok (.slice (if cap = l then b else b.map (·.add (l * te.size))) (h - l) (cap - l)) w := by
  have h1 : h ≤ cap := by omega
  rcases hlo with ⟨rfl, rfl⟩ | ⟨k1, rfl⟩ <;> rcases hhi with ⟨rfl, rfl⟩ | ⟨k2, rfl⟩
  all_goals simp [Instr.sliceAt, Instr.slice, run_underlying ht, Instr.sliceBounds, Instr.sliceBound, asIntOf, hE.sizeOf, h1, hlh]

theorem op_slice (hW : WR w0 M E aw n w) {o : Oper} {a : Act} {t e : TypeId} {te : TI} {x : Operand} {lo hi : Option Operand} (ht : P.underlying t = some (.slice e)) (hE : TIok P e te) (ho : o.op = .slice t x lo hi none)
    {v : V} {vl vh : Option V} (hv : repV E v (a.eval x)) (hl : match lo, vl with | none, none => True | some p, some q => repV E q (a.eval p) | _, _ => False) (hh : match hi, vh with | none, none => True | some p, some q => repV E q (a.eval p) | _, _ => False)
    {r : Res} (h : rSlice std te.size v vl vh = some r) (hs : r.side) : OpDid P o a aw E n w r := by
  have run : ∀ z, (Instr.sliceAt t (a.eval x) (lo.map a.eval) (hi.map a.eval) none).run P w = .ok z w → (execOp a.eval o).run P w = .ok (.value z) w :=
    fun z hz => exec_value _ (by unfold execOp; simp only [ho, Option.map_none]) hz
  have loI : ∀ k c, vl = some (.d (.int k c)) → 0 ≤ c → ∃ k', lo.map a.eval = some (.int k' ((c.toNat : Nat) : Int)) := by
    intro k c hvl h0
    subst hvl
    cases lo with
    | none => exact hl.elim
    | some p =>
      simp only [repV, repD] at hl
      exact ⟨k, by rw [Option.map_some, hl, toNat_cast h0]⟩
  have hiI : ∀ k c, vh = some (.d (.int k c)) → 0 ≤ c → ∃ k', hi.map a.eval = some (.int k' ((c.toNat : Nat) : Int)) := by
    intro k c hvh h0
    subst hvh
    cases hi with
    | none => exact hh.elim
    | some p =>
      simp only [repV, repD] at hh
      exact ⟨k, by rw [Option.map_some, hh, toNat_cast h0]⟩
  have loN : vl = none → lo.map a.eval = none := by
    intro hvl; subst hvl; cases lo with | none => rfl | some p => exact hl.elim
  have hiN : vh = none → hi.map a.eval = none := by
    intro hvh; subst hvh; cases hi with | none => rfl | some p => exact hh.elim
  -- a part of read-only data
  have lst : ∀ (cells : List D) (len l h : Nat) (pa : Option Addr) (cap : Nat), a.eval x = .slice pa len cap → (len = 0 ∨ ∃ p c e fz, pa = some p ∧ p.spot = none ∧ E.H p.block = some (.cells c e fz) ∧ repDs E.H cells (c.toList.drop p.off)) → l ≤ h → h ≤ len →
      (len ≤ cap) → (lo.map a.eval = none ∧ l = 0 ∨ ∃ k, lo.map a.eval = some (.int k (l : Int))) → (hi.map a.eval = none ∧ h = len ∨ ∃ k, hi.map a.eval = some (.int k (h : Int))) → ∀ cells' s, (repDs E.H cells' = repDs E.H cells' → ∀ ws, repDs E.H cells ws → repDs E.H cells' (ws.drop (l * te.size))) →
      OpDid P o a aw E n w ⟨.d (.lst cells' (h - l)), [], 0, s⟩ := by
    intro cells len l h pa cap hx hr hlh hhl hlc hlo hhi cells' s hc
    have hrun := run_slice_part (P := P) (w := w) ht hE pa len cap l h hlh hhl hlc _ _ hlo hhi
    rw [← hx] at hrun
    refine OpDid.pure hW (run _ hrun) rfl ?_
    simp only [repV, repD]
    refine ⟨_, _, rfl, by omega, ?_⟩
    by_cases hz : h - l = 0
    · exact .inl hz
    · rcases hr with hr | ⟨p, c, e', fz, rfl, h1, h2, h3⟩
      · omega
      right
      have hcl : ¬ cap = l := by omega
      obtain ⟨pb, po, ps⟩ := p
      simp only at h1 h3; subst h1
      refine ⟨⟨pb, po + l * te.size, none⟩, c, e', fz, by rw [if_neg hcl, Option.map_some, add_lit], rfl, h2, ?_⟩
      have := hc rfl _ h3
      rwa [List.drop_drop] at this
  have zero_lo : lo.map a.eval = none → (lo.map a.eval = none ∧ (0 : Nat) = 0 ∨ ∃ k, lo.map a.eval = some (.int k ((0 : Nat) : Int))) := fun h => .inl ⟨h, rfl⟩
  unfold rSlice at h
  split at h
  · rename_i l len
    have hv' := hv
    simp only [repV, repD] at hv'
    obtain ⟨pa, cap, hx, hlc, hr⟩ := hv'
    split at h
    · cases h
      have := lst l len 0 len pa cap hx hr (Nat.zero_le _) (Nat.le_refl _) hlc (.inl ⟨loN rfl, rfl⟩) (.inl ⟨hiN rfl, rfl⟩) l True (fun _ ws hw => by rw [Nat.zero_mul, List.drop_zero]; exact hw)
      exact this
    · rename_i k c
      cases h
      obtain ⟨h0, h1⟩ := hs
      refine lst l len c.toNat len pa cap hx hr (by omega) (Nat.le_refl _) hlc (.inr (loI _ _ rfl h0)) (.inl ⟨hiN rfl, rfl⟩) _ _ (fun _ ws hw => repDs_drop hw _)
    · rename_i k c
      cases h
      obtain ⟨h0, h1⟩ := hs
      have := lst l len 0 c.toNat pa cap hx hr (Nat.zero_le _) (by omega) hlc (.inl ⟨loN rfl, rfl⟩) (.inr (hiI _ _ rfl h0)) (l.take (c.toNat * te.size)) (std.inR 0 c (Nat.succ len)) (fun _ ws hw => by
        rw [Nat.zero_mul, List.drop_zero]
        exact repDs_of_get _ _ fun i d hd => by
          rw [List.getElem?_take] at hd
          split at hd
          · exact repDs_get _ _ hw _ _ hd
          · cases hd)
      exact this
    · rename_i k c k2 c2
      cases h
      obtain ⟨⟨h0, h1⟩, h2, h3⟩ := hs
      have h1 : c < ((c2.toNat + 1 : Nat) : Int) := h1
      refine lst l len c.toNat c2.toNat pa cap hx hr (by omega) (by omega) hlc (.inr (loI _ _ rfl h0)) (.inr (hiI _ _ rfl h2)) _ _ (fun _ ws hw => ?_)
      exact repDs_of_get _ _ fun i d hd => by
        change ((l.drop (c.toNat * te.size)).take _)[i]? = some d at hd
        rw [List.getElem?_take] at hd
        split at hd
        · exact repDs_get _ _ (repDs_drop hw _) _ _ hd
        · cases hd
    · cases h
  · rename_i id len k'
    simp only [cond_eq_ite] at h
    split at h
    · rename_i hk
      have own : ∀ (l h : Nat), l ≤ h → h ≤ len → (lo.map a.eval = none ∧ l = 0 ∨ ∃ k, lo.map a.eval = some (.int k (l : Int))) → (hi.map a.eval = none ∧ h = len ∨ ∃ k, hi.map a.eval = some (.int k (h : Int))) →
          0 < len → ∀ s, OpDid P o a aw E n w ⟨.slc id (0 + l * te.size) (h - l) te.size, [], 0, s⟩ := by
        intro l h hlh hhl hlo hhi hpos s
        simp only [repV] at hv
        rcases hv with ⟨_, h2, _⟩ | ⟨b, cap, h1, hx, hlc, _⟩
        · omega
        have hrun := run_slice_part (P := P) (w := w) ht hE (some ⟨b, 0, none⟩) len cap l h hlh hhl hlc _ _ hlo hhi
        rw [← hx] at hrun
        refine OpDid.pure hW (run _ hrun) rfl ?_
        simp only [repV]
        by_cases hcl : cap = l
        · rw [if_pos hcl]
          exact ⟨b, _, _, h1, rfl, by omega, fun hne => by omega⟩
        · rw [if_neg hcl, Option.map_some, add_lit]
          exact ⟨b, _, _, h1, rfl, by omega, fun _ => rfl⟩
      split at h
      · rename_i k2 c2
        cases h
        obtain ⟨h0, h1⟩ := hs
        have h1 : c2 < ((len + 1 : Nat) : Int) := h1
        simp only [repV] at hv
        rcases hv with ⟨g1, g2, hx⟩ | ⟨b, cap, g1, hx, hlc, hcm, hκ⟩
        · have hrun := run_slice_part (P := P) (w := w) ht hE none 0 0 0 c2.toNat (by omega) (by omega) (Nat.le_refl _) _ _ (.inl ⟨loN rfl, rfl⟩) (.inr (hiI _ _ rfl h0))
          rw [← hx] at hrun
          refine OpDid.pure hW (run _ hrun) rfl ?_
          simp only [repV]
          exact .inl ⟨g1, by show c2.toNat = 0; omega, by simp; omega⟩
        · have hrun := run_slice_part (P := P) (w := w) ht hE (some ⟨b, 0, none⟩) len cap 0 c2.toNat (by omega) (by omega) hlc _ _ (.inl ⟨loN rfl, rfl⟩) (.inr (hiI _ _ rfl h0))
          rw [← hx] at hrun
          refine OpDid.pure hW (run _ hrun) rfl ?_
          simp only [repV]
          refine .inr ⟨b, cap, g1, ?_, by show c2.toNat ≤ cap; omega, hcm, by first | exact hκ | (rw [hκ, Nat.eq_of_beq_eq_true hk]) | (rw [hκ, ← Nat.eq_of_beq_eq_true hk])⟩
          by_cases hcl : cap = 0
          · rw [if_pos hcl]; simp; rfl
          · rw [if_neg hcl]; simp [Addr.add]; rfl
      · rename_i k c
        cases h
        obtain ⟨⟨h0, h1⟩, h2⟩ := hs
        have h2 : 1 ≤ len := h2
        exact own c.toNat len (by omega) (Nat.le_refl _) (.inr (loI _ _ rfl h0)) (.inl ⟨hiN rfl, rfl⟩) h2 _
      · rename_i k c k2 c2
        cases h
        obtain ⟨⟨h0, h1⟩, ⟨h2, h3⟩, h4⟩ := hs
        have h1 : c < ((c2.toNat + 1 : Nat) : Int) := h1
        have h4 : 1 ≤ len := h4
        exact own c.toNat c2.toNat (by omega) (by omega) (.inr (loI _ _ rfl h0)) (.inr (hiI _ _ rfl h2)) h4 _
      · cases h
    · cases h
  · split at h
    · rename_i k2 c2
      cases h
      obtain ⟨h0, h1⟩ := hs
      have h1 : c2 < ((1 : Nat) : Int) := h1
      simp only [repV, repD] at hv
      have hrun := run_slice_part (P := P) (w := w) ht hE none 0 0 0 0 (Nat.le_refl _) (Nat.le_refl _) (Nat.le_refl _) _ _ (.inl ⟨loN rfl, rfl⟩) (.inr (by have := hiI _ _ rfl h0; rwa [show c2.toNat = 0 by omega] at this))
      rw [← hv] at hrun
      refine OpDid.pure hW (run _ hrun) rfl ?_
      simp only [repV, repD]
      simp
    · cases h
  · rename_i id s m k' len
    simp only [cond_eq_ite] at h
    split at h
    · rename_i hk
      have hk1 := Nat.eq_of_beq_eq_true hk
      subst hk1
      split at h
      · rename_i kk c
        cases h
        obtain ⟨h0, h1⟩ := hs
        have h1 : c < ((Nat.succ len : Nat) : Int) := h1
        simp only [repV] at hv
        obtain ⟨b, cap, o', g1, hx, hlm, hoo, hlc⟩ := hv
        have hrun := run_slice_part (P := P) (w := w) ht hE (some ⟨b, o', none⟩) len cap 0 c.toNat (Nat.zero_le _) (by omega) hlc _ _ (.inl ⟨loN rfl, rfl⟩) (.inr (hiI _ _ rfl h0))
        rw [← hx] at hrun
        refine OpDid.pure hW (run _ hrun) rfl ?_
        simp only [repV]
        refine ⟨b, cap - 0, o', g1, ?_, ?_, fun hne => hoo ?_, ?_⟩
        · have : (if cap = 0 then some (⟨b, o', none⟩ : Addr) else (some (⟨b, o', none⟩ : Addr)).map (·.add (0 * te.size))) = some ⟨b, o', none⟩ := by
            rw [Nat.zero_mul, Option.map_some, add_lit]; simp
          rw [this]; rfl
        · show c.toNat ≤ m; omega
        · have hne : c.toNat ≠ 0 := hne
          omega
        · show c.toNat ≤ cap - 0; omega
      · cases h
    · cases h
  · cases h

/-- A part of an array's slice, from a place that the text tells. -/
theorem op_slaFrom (hW : WR w0 M E aw n w) {o : Oper} {a : Act} {t e : TypeId} {te : TI} {x lo : Operand} (ht : P.underlying t = some (.slice e)) (hE : TIok P e te) (ho : o.op = .slice t x (some lo) none none)
    {v : V} (hv : repV E v (a.eval x)) {r : Res} (h : rSlaFrom te.size v (asInt' lo) = some r) (hs : r.side) : OpDid P o a aw E n w r := by
  have run : ∀ z, (Instr.sliceAt t (a.eval x) (some (a.eval lo)) none none).run P w = .ok z w → (execOp a.eval o).run P w = .ok (.value z) w :=
    fun z hz => exec_value _ (by unfold execOp; simp only [ho, Option.map_none, Option.map_some]) hz
  unfold rSlaFrom at h
  split at h
  case h_2 => cases h
  rename_i id s m k' len c hl
  simp only [cond_eq_ite, Bool.and_eq_true] at h
  split at h
  case isFalse => cases h
  rename_i hk
  obtain ⟨hk1, hk2⟩ := hk
  have hk1 := Nat.eq_of_beq_eq_true hk1
  have hk2 := Nat.le_of_ble_eq_true hk2
  subst hk1
  cases h
  obtain ⟨kk, rfl⟩ := asInt'_eq hl
  simp only [repV] at hv
  obtain ⟨b, cap, o', g1, hx, hlm, hoo, hlc⟩ := hv
  have hrun := run_slice_part (P := P) (w := w) ht hE (some ⟨b, o', none⟩) len cap c len hk2 (Nat.le_refl _) hlc (some (.int kk (c : Int))) none (.inr ⟨kk, rfl⟩) (.inl ⟨rfl, rfl⟩)
  rw [← hx] at hrun
  refine OpDid.pure hW (run _ hrun) rfl ?_
  simp only [repV]
  by_cases hcap : cap = c
  · refine ⟨b, cap - c, o', g1, by rw [if_pos hcap]; rfl, Nat.sub_le_sub_right hlm c, fun hne => ?_, Nat.sub_le_sub_right hlc c⟩
    have hne : len - c ≠ 0 := hne
    omega
  · refine ⟨b, cap - c, o' + c * te.size, g1, ?_, Nat.sub_le_sub_right hlm c, fun hne => ?_, Nat.sub_le_sub_right hlc c⟩
    · rw [if_neg hcap, Option.map_some, add_lit]; rfl
    · have hne : len - c ≠ 0 := hne
      rw [hoo (by omega)]; rfl

/-- An array's part, from a place that the text tells. -/
theorem op_arrFrom (hW : WR w0 M E aw n w) {o : Oper} {a : Act} {t e : TypeId} {m : Nat} {te : TI} {x lo : Operand} (ht : P.underlying t = some (.array m e)) (hE : TIok P e te) (ho : o.op = .slice t x (some lo) none none)
    {v : V} (hv : repV E v (a.eval x)) {r : Res} (h : rArrFrom m te.size v (asInt' lo) = some r) (hs : r.side) : OpDid P o a aw E n w r := by
  have run : ∀ z, (Instr.sliceAt t (a.eval x) (some (a.eval lo)) none none).run P w = .ok z w → (execOp a.eval o).run P w = .ok (.value z) w :=
    fun z hz => exec_value _ (by unfold execOp; simp only [ho, Option.map_none, Option.map_some]) hz
  unfold rArrFrom at h
  split at h
  case h_2 => cases h
  rename_i id off c hl
  simp only [cond_eq_ite] at h
  split at h
  case isFalse => cases h
  rename_i hk
  have hk2 := Nat.le_of_ble_eq_true hk
  cases h
  obtain ⟨kk, rfl⟩ := asInt'_eq hl
  simp only [repV] at hv
  obtain ⟨b, h1, hx⟩ := hv
  have hrun : (Instr.sliceAt t (a.eval x) (some (.int kk (c : Int))) none none).run P w = .ok (.slice (some (if m = c then ⟨b, off, none⟩ else (⟨b, off, none⟩ : Addr).add (c * te.size))) (m - c) (m - c)) w := by
    rw [hx]
    simp [Instr.sliceAt, run_underlying ht, Instr.sureAddr, Instr.sliceBounds, Instr.sliceBound, asIntOf, hE.sizeOf, hk2]
  refine OpDid.pure hW (run _ hrun) rfl ?_
  simp only [repV]
  by_cases hcap : m = c
  · refine ⟨b, m - c, off, h1, by rw [if_pos hcap]; rfl, Nat.le_refl _, fun hne => ?_, Nat.le_refl _⟩
    have hne : m - c ≠ 0 := hne
    omega
  · exact ⟨b, m - c, off + c * te.size, h1, by rw [if_neg hcap, add_lit]; rfl, Nat.le_refl _, fun _ => rfl, Nat.le_refl _⟩

/-- An array's slice. -/
theorem op_sliceArr (hW : WR w0 M E aw n w) {o : Oper} {a : Act} {t e : TypeId} {m : Nat} {te : TI} {x : Operand} {hi : Option Operand} (ht : P.underlying t = some (.array m e)) (hE : TIok P e te) (ho : o.op = .slice t x none hi none)
    {v : V} {vh : Option V} (hv : repV E v (a.eval x)) (hh : match hi, vh with | none, none => True | some p, some q => repV E q (a.eval p) | _, _ => False)
    {r : Res} (h : rSliceArr std m te.size v vh = some r) (hs : r.side) : OpDid P o a aw E n w r := by
  unfold rSliceArr at h
  split at h
  case h_3 => cases h
  case h_2 =>
    rename_i l off
    split at h
    · cases h
      cases hi with
      | some p => exact hh.elim
      | none =>
        simp only [repV] at hv
        obtain ⟨p, c, e', fz, base, hx, hsp, hH, hoff, hrep⟩ := hv
        obtain ⟨pb, po, ps⟩ := p
        simp only at hsp hH hoff
        subst hsp hoff
        have hrun : (Instr.sliceAt t (a.eval x) none none none).run P w = .ok (.slice (some (if m = 0 then ⟨pb, base + off, none⟩ else (⟨pb, base + off, none⟩ : Addr).add (0 * te.size))) (m - 0) (m - 0)) w := by
          rw [hx]
          simp [Instr.sliceAt, run_underlying ht, Instr.sureAddr, Instr.sliceBounds, hE.sizeOf]
        refine OpDid.pure hW (exec_value _ (by unfold execOp; simp only [ho, Option.map_none]) hrun) rfl ?_
        simp only [repV, repD]
        refine ⟨_, _, rfl, Nat.le_refl _, .inr ⟨⟨pb, base + off, none⟩, c, e', fz, ?_, rfl, hH, ?_⟩⟩
        · rw [Nat.zero_mul, add_lit]; simp
        · have := repDs_drop hrep off
          rwa [List.drop_drop] at this
    · cases h
  rename_i id off
  have run : ∀ z, (Instr.sliceAt t (a.eval x) none (hi.map a.eval) none).run P w = .ok z w → (execOp a.eval o).run P w = .ok (.value z) w :=
    fun z hz => exec_value _ (by unfold execOp; simp only [ho, Option.map_none]) hz
  simp only [repV] at hv
  obtain ⟨b, h1, hx⟩ := hv
  have part : ∀ (h : Nat), h ≤ m → (hi.map a.eval = none ∧ h = m ∨ ∃ k, hi.map a.eval = some (.int k (h : Int))) → ∀ s, OpDid P o a aw E n w ⟨.sla id off m te.size h, [], 0, s⟩ := by
    intro h hle hhi s
    have hrun : (Instr.sliceAt t (a.eval x) none (hi.map a.eval) none).run P w = .ok (.slice (some (if m = 0 then ⟨b, off, none⟩ else (⟨b, off, none⟩ : Addr).add (0 * te.size))) (h - 0) (m - 0)) w := by
      rw [hx]
      rcases hhi with ⟨hn, rfl⟩ | ⟨k, hn⟩
      · rw [hn]; simp [Instr.sliceAt, run_underlying ht, Instr.sureAddr, Instr.sliceBounds, hE.sizeOf]
      · rw [hn]; simp [Instr.sliceAt, run_underlying ht, Instr.sureAddr, Instr.sliceBounds, Instr.sliceBound, asIntOf, hE.sizeOf, hle]
    refine OpDid.pure hW (run _ hrun) rfl ?_
    simp only [repV]
    refine ⟨b, m - 0, off, h1, ?_, hle, fun _ => rfl, by omega⟩
    rw [Nat.zero_mul, add_lit]
    simp
  split at h
  · cases h
    cases hi with
    | none => exact part m (Nat.le_refl _) (.inl ⟨rfl, rfl⟩) _
    | some p => exact hh.elim
  · rename_i k c
    cases h
    obtain ⟨h0, h1⟩ := hs
    cases hi with
    | none => exact hh.elim
    | some p =>
      simp only [repV, repD] at hh
      exact part c.toNat (by omega) (.inr ⟨k, by rw [Option.map_some, hh, toNat_cast h0]⟩) _
  · cases h

theorem madeCells_list {z : Array Value} {k : Nat} (hz : z.size = k) (hk : 0 < k) : ∀ q, (madeCells z (q * k)).toList = (List.replicate q z.toList).flatten := by
  intro q
  induction q with
  | zero => simp [madeCells]
  | succ q ih =>
    have h1 : (madeCells z ((q + 1) * k)).toList = (madeCells z (q * k)).toList ++ z.toList := by
      simp only [madeCells, Array.toList_map, Array.toList_range, Nat.add_mul, Nat.one_mul, List.range_add, List.map_append, List.map_map]
      congr 1
      apply List.ext_getElem?
      intro j
      simp only [List.getElem?_map, Function.comp_def]
      by_cases hj : j < k
      · rw [List.getElem?_range hj]
        have : (q * k + j) % z.size = j := by rw [hz, Nat.mul_comm, Nat.mul_add_mod, Nat.mod_eq_of_lt hj]
        simp only [Option.map_some, this]
        rw [getElem!_pos z j (by omega)]
        simp [hz, hj]
      · rw [List.getElem?_eq_none (by simp; omega), List.getElem?_eq_none (by simp; omega)]
        rfl
    rw [h1, ih, List.replicate_succ', List.flatten_append]
    simp

theorem repDs_rep {H : Nat → Option Obj} {zs : List D} {vs : List Value} (h : repDs H zs vs) (hl : zs.length = vs.length) : ∀ (p q : Nat), p ≤ q → repDs H (List.replicate p zs).flatten (List.replicate q vs).flatten
  | 0, q, _ => by simp [repDs]
  | p + 1, 0, h' => by omega
  | p + 1, q + 1, h' => by
    simp only [List.replicate_succ, List.flatten_cons]
    exact repDs_app h hl (repDs_rep h hl p q (by omega))

theorem op_make (hW : WR w0 M E aw n w) {o : Oper} {a : Act} {t e : TypeId} {te : TI} {x y : Operand} (ht : P.underlying t = some (.slice e)) (hE : TIok P e te) (ho : o.op = .makeSlice t x y)
    {u v : V} (hu : repV E u (a.eval x)) (hv : repV E v (a.eval y)) {r : Res} (h : rMake std e te n u v = some r) (hs : r.side) (hz : te.size ≠ 0) : OpDid P o a aw E n w r := by
  obtain ⟨i, z, dd, hi, hsz, hby, hz', hzr, _, _, _, hzs, _⟩ := hE.info
  unfold rMake at h
  split at h
  · rename_i k1 c1 k2 c2
    split at h
    · rename_i zs hzl
      simp only [cond_eq_ite] at h
      split at h
      · rename_i hlen
        cases h
        obtain ⟨⟨h0, h1⟩, ⟨h20, h2⟩, h3⟩ := hs
        have h1 : c1 < ((c2.toNat + 1 : Nat) : Int) := h1
        have h2 : c2 < ((4611686018427387905 : Nat) : Int) := h2
        have h3 : c2.toNat * te.bytes ≤ 140737488355328 := h3
        simp only [repV, repD] at hu hv
        have hb : (i.bytes : Int) * c2 ≤ 281474976710656 := by
          rw [hby]
          have : ((te.bytes * c2.toNat : Nat) : Int) ≤ 140737488355328 := by rw [Nat.mul_comm]; omega
          have e : c2 = ((c2.toNat : Nat) : Int) := by omega
          rw [e]
          rw [Int.natCast_mul] at this
          omega
        have hr := run_make (P := P) w t e i z ht hi hz' k1 k2 c1 c2 h0 (by omega) hb (by omega)
        have hr' : (execOp a.eval o).run P w = .ok (.value (.slice (some ⟨w.heap.size, 0, none⟩) c1.toNat c2.toNat)) (w.alloc (.cells (madeCells z.cells (c2.toNat * i.size)) e)) :=
          exec_value (Instr.makeSlice t (a.eval x) (a.eval y)) (by unfold execOp; simp only [ho]) (by rw [hu, hv]; exact hr)
        rw [hsz] at hr'
        have hzr := hzr E
        obtain ⟨hp1, hp2⟩ := plain_rep _ _ hzl _ hzr
        have hcells := madeCells_list hzs (by omega) c2.toNat
        refine OpDid.value hr' (Did.alloc hW (.inr ⟨w.heap.size, _, Emb.add_new, heap_alloc_new w _, by rw [Emb.add_κ], ?_, ?_⟩) ?_)
        · rw [hcells]
          intro x hx
          obtain ⟨l, h1, h2⟩ := List.mem_flatten.1 hx
          rw [(List.mem_replicate.1 h1).2] at h2
          exact repC_one _ _ hzr x h2
        · rw [hcells]
          exact repDs_rep hp1 hp2 c1.toNat c2.toNat (by omega)
        · simp only [repV]
          exact .inr ⟨_, c2.toNat, Emb.add_new, rfl, by show c1.toNat ≤ _; omega, by unfold maxLen; omega, by rw [Emb.add_κ, size_madeCells]⟩
      · cases h
    · cases h
  · cases h
end
end Go.AX

namespace Go.AX
set_option autoImplicit false
set_option linter.unusedVariables false

section
variable {P : Program} {w0 : World} {M : Nat → Prop} {E : Emb} {aw : List (Nat × Blk)} {n : Nat} {w : World}

theorem op_index {lt : Option Nat} (hW : WR w0 M E aw n w) {o : Oper} {a : Act} {t e : TypeId} {m : Nat} {te : TI} {x ix : Operand} (ht : P.underlying t = some (.array m e)) (hE : TIok P e te) (ho : o.op = .index t x ix)
    {v i : V} (hv : repV E v (a.eval x)) (hi : repV E i (a.eval ix)) {r : Res} (hlt' : ∀ c, lt = some c → asInt' ix = some c) (h : rIndex std m te.size te v lt i = some r) (hs : r.side) : OpDid P o a aw E n w r := by
  unfold rIndex at h
  split at h
  · rename_i k c l
    simp only [repV, repD] at hv hi
    obtain ⟨cs, hx, hc⟩ := hv
    have fin : ∀ (j : Nat) (cl : List V) (z : V) (s : Prop), c = (j : Int) → j < m → szs cl = te.size → repC E cl ((cs.toList.drop (j * te.size)).take te.size) → asVal te.agg cl = some z → OpDid P o a aw E n w ⟨z, [], 0, s⟩ := by
      intro j cl z s hcj hj hcl hrep hz
      have h0 : (0 : Int) ≤ (j : Int) := by omega
      have h1 : (j : Int) < (m : Int) := by omega
      rcases asVal_rep hz hrep with ⟨h3, h4⟩ | ⟨h3, u, h4, h5⟩
      · refine OpDid.pure hW (exec_value (Instr.index t (a.eval x) (a.eval ix)) (by unfold execOp; simp only [ho]) ?_) rfl h4
        rw [hx, hi, hcj]
        simp [Instr.index, asIntOf, run_underlying ht, hj, part, hE.isAgg, hE.sizeOf, h3]
        apply Array.toList_inj.1
        simp
      · refine OpDid.pure hW (exec_value (Instr.index t (a.eval x) (a.eval ix)) (by unfold execOp; simp only [ho]) ?_) rfl h5
        have h6 : cs[j * te.size]? = some u := by
          have : ((cs.toList.drop (j * te.size)).take te.size)[0]? = some u := by rw [h4]; rfl
          rw [List.getElem?_take] at this
          split at this
          · simpa using this
          · cases this
        rw [hx, hi, hcj]
        simp [Instr.index, asIntOf, run_underlying ht, hj, part, hE.isAgg, hE.sizeOf, h3, h6]
    split at h
    · rename_i cc
      simp only [cond_eq_ite] at h
      split at h
      · rename_i hlt
        split at h
        · rename_i cl hcut
          split at h
          · rename_i z hz
            cases h
            obtain ⟨k', hk⟩ := asInt'_eq (hlt' _ rfl)
            have hcc : c = (cc : Int) := by
              rw [hk] at hi
              simp only [Act.eval, Value.int.injEq] at hi
              exact hi.2.symm
            obtain ⟨h1, h2⟩ := cut_rep _ _ _ _ hcut _ hc
            have hmul : Nat.mul cc te.size = cc * te.size := rfl
            rw [hmul] at h1 h2
            have hl := repC_len _ _ h2
            exact fin cc cl z _ hcc (by simpa using hlt) (by rw [← hl, List.length_take, List.length_drop]; omega) h2 hz
          · cases h
        · cases h
      · cases h
    · split at h
      · rename_i ds hd
        split at h
        · rename_i cl s hrd
          split at h
          · rename_i z hz
            cases h
            obtain ⟨⟨h0, h1⟩, h2⟩ := hs
            obtain ⟨h3, h4⟩ := flatD_rep hd hc
            have h5 := rdLs_rep h3 _ _ _ _ hrd h2
            have h6 := rdLs_size _ _ _ _ hrd
            rw [hE.leaves] at h6
            have e1 : std.idx 0 (std.toNat c) te.size = c.toNat * te.size := Nat.zero_add _
            rw [h6, Nat.add_zero, e1] at h5
            exact fin c.toNat cl z _ (by omega) (by omega) h6 h5 hz
          · cases h
        · cases h
      · cases h
  · cases h

theorem foldl_list (off : Nat) (us : List Value) (cs : Array Value) (h : off + us.length ≤ cs.size) :
    ((us.zipIdx 0).foldl (fun cs (x : Value × Nat) => cs.setIfInBounds (off + x.2) x.1) cs).toList = cs.toList.take off ++ us ++ cs.toList.drop (off + us.length) := by
  obtain ⟨h1, h2⟩ := Great.foldl_set off us 0 cs
  apply List.ext_getElem?
  intro k
  rw [Array.getElem?_toList, h2 k]
  have hl : cs.toList.length = cs.size := Array.length_toList
  have ht : (cs.toList.take off).length = off := by rw [List.length_take]; omega
  simp only [Nat.add_zero]
  by_cases hk : off ≤ k
  · by_cases hk2 : k < off + us.length
    · rw [if_pos ⟨hk, hk2, by omega⟩, List.append_assoc, List.getElem?_append_right (by omega), List.getElem?_append_left (by omega), ht]
    · rw [if_neg (by omega), List.getElem?_append_right (by rw [List.length_append]; omega), List.getElem?_drop, List.length_append, ht]
      rw [show cs[k]? = cs.toList[k]? by simp]
      congr 1
      omega
  · rw [if_neg (by omega), List.append_assoc, List.getElem?_append_left (by omega), List.getElem?_take, if_pos (by omega), Array.getElem?_toList]

theorem bigSet_rep {l : List V} {o : Nat} {x : D} {l' : List V} (h : bigSet std l o x = some l') {cs : List Value} {u : Value} (hc : repC E l cs) (h2 : repD E.H x u) : o + 1 ≤ cs.length ∧ repC E l' (cs.take o ++ [u] ++ cs.drop (o + 1)) := by
  cases l with
  | nil => cases h
  | cons v t =>
    cases v with
    | big n l0 =>
      simp only [bigSet, cond_eq_ite] at h
      split at h
      · rename_i hlt
        cases h
        have hlt' : o < n := by simpa using hlt
        simp only [repC] at hc
        rcases hc with ⟨n', l1, xs, ys, q, rfl, h3, h4, h5, h6⟩ | ⟨_, _, _, _, h7, _⟩
        · cases q
          refine ⟨by simp only [List.length_append]; omega, ?_⟩
          simp only [repC]
          refine .inl ⟨n, _, xs.set o u, ys, rfl, ?_, by simp [h3], by simp [std, h4], ?_, h6⟩
          · rw [List.take_append_of_le_length (by omega), List.drop_append_of_le_length (by omega), List.set_eq_take_append_cons_drop, if_pos (by omega)]
            simp
          · refine repDs_of_get _ _ fun i d hd => ?_
            simp only [std, List.getElem?_set] at hd
            by_cases e : o = i
            · subst e
              rw [if_pos rfl, if_pos (by omega)] at hd
              cases hd
              exact ⟨u, by rw [List.getElem?_set_self (by omega)], h2⟩
            · rw [if_neg e] at hd
              obtain ⟨v, hv, hr⟩ := repDs_get _ _ h5 i d hd
              exact ⟨v, by rw [List.getElem?_set_ne e]; exact hv, hr⟩
        · simp only [repV] at h7
      · cases h
    | _ => cases h
theorem splB_rep {l : List V} {o : Nat} {c l' : List V} (h : splB std l o c = some l') {cs us : List Value} (hc : repC E l cs) (hu : repC E c us) : o + us.length ≤ cs.length ∧ repC E l' (cs.take o ++ us ++ cs.drop (o + us.length)) := by
  unfold splB at h
  split at h
  · rename_i r hr
    cases h
    exact splice_rep _ _ _ _ hr _ _ hc hu
  · split at h
    · simp only [repC] at hu
      rcases hu with ⟨_, _, _, _, q, _⟩ | ⟨u, us', rfl, h1, h2, rfl⟩
      · cases q
      simp only [repV] at h2
      exact bigSet_rep h hc h2
    · cases h
theorem fill_rep {pl' pl : Nat → Option (Nat × Nat)} (hp : ∀ i o s, pl' i = some (o, s) → pl i = some (o, s)) : ∀ (parts : List (Nat × V)) (pv : List (Nat × Value)) (l l' : List V) (cells : Array Value), parts.length = pv.length →
    (∀ (j i : Nat) (v : V) (u : Value) (i' : Nat), parts[j]? = some (i, v) → pv[j]? = some (i', u) → i = i' ∧ repV E v u) → fill' std pl' l parts = some l' → repC E l cells.toList →
    ∃ r, Instr.fill pl cells pv = some r ∧ repC E l' r.toList
  | [], pv, l, l', cells, hl, _, h, hc => by
    have : pv = [] := List.eq_nil_of_length_eq_zero (by simpa using hl.symm)
    subst this
    cases h
    exact ⟨cells, rfl, hc⟩
  | (i, v) :: t, [], l, l', cells, hl, _, h, hc => by simp at hl
  | (i, v) :: t, (i', u) :: pv, l, l', cells, hl, hr, h, hc => by
    obtain ⟨rfl, hvu⟩ := hr 0 i v u i' rfl rfl
    simp only [fill'] at h
    split at h
    · rename_i o s hpl
      simp only [cond_eq_ite, Bool.and_eq_true] at h
      split at h
      · rename_i hn
        split at h
        · rename_i l2 hsp
          have h1 := cells_rep hvu (notTup_ne hn.1)
          obtain ⟨h2, h3⟩ := splB_rep hsp hc h1
          have h4 := repC_len _ _ h1
          have h5 := Nat.eq_of_beq_eq_true hn.2
          have h6 := foldl_list o u.cells.toList cells (by simpa using h2)
          rw [← h6] at h3
          obtain ⟨r, h7, h8⟩ := fill_rep hp t pv l2 l' _ (by simpa using hl) (fun j i v u i' a b => hr (j + 1) i v u i' (by simpa using a) (by simpa using b)) h h3
          refine ⟨r, ?_, h8⟩
          unfold Instr.fill
          simp only [hp _ _ _ hpl]
          have h9 : u.cells.size = s := by rw [← h5, ← h4]; simp
          rw [if_neg (by simp only [Array.length_toList] at h2; simp [h9]; omega)]
          rw [← h7]
          congr 1
          rw [← Array.foldl_toList, Array.toList_zipIdx]
        · cases h
      · cases h
    · cases h

theorem mapM_places : ∀ (gs : List Field), (∀ f ∈ gs, (P.info? f.type).isSome = true) → ∃ places, gs.mapM (fun f => (P.info? f.type).map fun i => (f.offset, i.size)) = some places ∧ ∀ (i : Nat) (g : Field) (inf : TypeInfo), gs[i]? = some g → P.info? g.type = some inf → places[i]? = some (g.offset, inf.size)
  | [], _ => ⟨[], rfl, fun i g inf h => by simp at h⟩
  | g :: gs, h => by
    obtain ⟨places, h1, h2⟩ := mapM_places gs fun f hf => h f (List.mem_cons_of_mem _ hf)
    cases hi : P.info? g.type with
    | none => have := h g List.mem_cons_self; rw [hi] at this; cases this
    | some inf =>
      refine ⟨(g.offset, inf.size) :: places, by simp [List.mapM_cons, hi, h1], fun i g' inf' hg hinf => ?_⟩
      cases i with
      | zero => simp at hg; subst hg; rw [hi] at hinf; cases hinf; rfl
      | succ i => simpa using h2 i g' inf' (by simpa using hg) hinf

theorem zipParts_get {a : Act} : ∀ (ps : List (Nat × Operand)) (vs : List V) (ws : List Value), repVs E vs ws → ps.map (fun p => a.eval p.2) = ws →
    (zipParts ps vs).length = (ps.map fun p => (p.1, a.eval p.2)).length ∧ ∀ (j i : Nat) (v : V) (u : Value) (i' : Nat), (zipParts ps vs)[j]? = some (i, v) → (ps.map fun p => (p.1, a.eval p.2))[j]? = some (i', u) → i = i' ∧ repV E v u
  | [], vs, ws, h, hw => by simp [zipParts]
  | (i, x) :: t, [], ws, h, hw => by
    simp only [repVs] at h; subst h; simp at hw
  | (i, x) :: t, v :: vs, ws, h, hw => by
    simp only [repVs] at h
    obtain ⟨u, us, rfl, h1, h2⟩ := h
    simp only [List.map_cons, List.cons.injEq] at hw
    obtain ⟨rfl, hw⟩ := hw
    obtain ⟨h3, h4⟩ := zipParts_get t vs us h2 hw
    refine ⟨by simpa [zipParts] using h3, fun j k z u' k' ha hb => ?_⟩
    cases j with
    | zero =>
      simp only [zipParts, List.getElem?_cons_zero, Option.some.injEq, Prod.mk.injEq] at ha
      simp only [List.map_cons, List.getElem?_cons_zero, Option.some.injEq, Prod.mk.injEq] at hb
      obtain ⟨rfl, rfl⟩ := ha
      obtain ⟨rfl, rfl⟩ := hb
      exact ⟨rfl, h1⟩
    | succ j => exact h4 j k z u' k' (by simpa [zipParts] using ha) (by simpa using hb)

theorem op_build (hW : WR w0 M E aw n w) {o : Oper} {a : Act} {t : TypeId} {ti : TI} {parts : Array (Nat × Operand)} {pl : Nat → Option (Nat × Nat)} (hT : TIok P t ti) (ho : o.op = .build t parts)
    (hpl : (∃ gs, P.underlying t = some (.struct gs) ∧ (∀ f ∈ gs.toList, (P.info? f.type).isSome = true) ∧ ∀ i o' s, pl i = some (o', s) → ∃ (g : Field) (inf : TypeInfo), gs.toList[i]? = some g ∧ P.info? g.type = some inf ∧ g.offset = o' ∧ inf.size = s) ∨
      (∃ m e inf, P.underlying t = some (.array m e) ∧ P.info? e = some inf ∧ ∀ i o' s, pl i = some (o', s) → o' = i * inf.size ∧ s = inf.size))
    {vs : List V} (hv : repVs E vs (parts.toList.map fun p => a.eval p.2)) {l : List V} (h : fill' std pl (zeroL std ti.leaves) (zipParts parts.toList vs) = some l) : OpDid P o a aw E n w ⟨.agg l, [], 0, True⟩ := by
  obtain ⟨i, z, dd, hi, hsz, hby, hz', hzr, hu, _, _, hzs, _⟩ := hT.info
  obtain ⟨g1, g2⟩ := zipParts_get parts.toList vs _ hv rfl
  have key : ∃ cells, P.built t (parts.map fun p => (p.1, a.eval p.2)).toList = some cells ∧ repC E l cells.toList := by
    rcases hpl with ⟨gs, h1, h2, h3⟩ | ⟨m, e, inf, h1, h2, h3⟩
    · obtain ⟨places, h4, h5⟩ := mapM_places gs.toList h2
      obtain ⟨r, h6, h7⟩ := fill_rep (pl := (places.toArray[·]?)) (fun i o s hp => by
        obtain ⟨g, inf, ha, hb, rfl, rfl⟩ := h3 i o s hp
        simpa using h5 i g inf ha hb) _ _ _ _ z.cells g1 g2 h (hzr E)
      refine ⟨r, ?_, h7⟩
      unfold Program.built
      rw [h1, hi]
      simp only [hz', h4, Array.toList_map]
      exact h6
    · obtain ⟨r, h6, h7⟩ := fill_rep (pl := fun i => some (i * inf.size, inf.size)) (fun i o s hp => by
        obtain ⟨rfl, rfl⟩ := h3 i o s hp; rfl) _ _ _ _ z.cells g1 g2 h (hzr E)
      refine ⟨r, ?_, h7⟩
      unfold Program.built
      rw [h1, hi]
      simp only [hz', h2, Array.toList_map]
      exact h6
  obtain ⟨cells, h1, h2⟩ := key
  refine OpDid.pure hW (v := .agg cells) (exec_value (Instr.build t (parts.map fun p => (p.1, a.eval p.2))) (by unfold execOp; simp only [ho]) (run_build w t _ cells h1)) rfl ?_
  simp only [repV]
  exact ⟨_, rfl, h2⟩
theorem plainAll_rep : ∀ (vs : List V) (k : Nat) (ds : List D), plainAll std vs = some ds → sizeIs vs k = true → ∀ us, repVs E vs us → (∀ u ∈ us, u.cells.size = k) ∧ repDs E.H ds (us.flatMap fun u => u.cells.toList) ∧ ds.length = vs.length * k
  | [], k, ds, h, _, us, hu => by
    cases h
    simp only [repVs] at hu; subst hu
    simp [repDs]
  | v :: t, k, ds, h, hk, us, hu => by
    simp only [plainAll] at h
    split at h
    · rename_i db h2
      simp only [sizeIs, Bool.and_eq_true] at hk
      simp only [repVs] at hu
      obtain ⟨u, us, rfl, h3, h4⟩ := hu
      obtain ⟨h5, h6, h7⟩ := plainAll_rep t k db h2 hk.2 us h4
      have h8 := cells_rep h3 (by rintro l rfl; simp [V.cells, plainK] at h)
      have h12 := Nat.eq_of_beq_eq_true hk.1
      have h13 : u.cells.size = k := by rw [← h12, ← repC_len _ _ h8]; simp
      have hus := repVs_len _ _ h4
      have hlen : db.length = (us.flatMap fun u => u.cells.toList).length := by
        rw [h7, ← hus]
        clear h4 h6 h7 hus
        induction us with
        | nil => simp
        | cons x us ih =>
          rw [List.flatMap_cons, List.length_append, ← ih (fun y hy => h5 y (List.mem_cons_of_mem _ hy))]
          have := h5 x List.mem_cons_self
          simp only [Array.length_toList, this, List.length_cons, Nat.add_mul]; omega
      obtain ⟨h9, h10⟩ := plainK_rep _ _ _ h _ _ h8 h6 hlen
      refine ⟨?_, ?_, ?_⟩
      · intro x hx
        rcases List.mem_cons.1 hx with rfl | hx
        · exact h13
        · exact h5 x hx
      · rw [List.flatMap_cons]; exact h9
      · rw [h10, ← hlen, h7]
        simp [h13, Nat.add_mul]; omega
    · cases h

theorem fill_dense_list {s : Nat} (hs : 0 < s) : ∀ (us : List Value) (i0 : Nat) (cells : Array Value), (∀ u ∈ us, u.cells.size = s) → (i0 + us.length) * s ≤ cells.size →
    ∃ r, Instr.fill (fun i => some (i * s, s)) cells ((us.zipIdx i0).map fun x => (x.2, x.1)) = some r ∧ r.toList = cells.toList.take (i0 * s) ++ (us.flatMap fun u => u.cells.toList) ++ cells.toList.drop ((i0 + us.length) * s)
  | [], i0, cells, _, _ => ⟨cells, rfl, by simp⟩
  | u :: us, i0, cells, hu, hl => by
    have hus : u.cells.size = s := hu u List.mem_cons_self
    have e1 : (i0 + (u :: us).length) * s = i0 * s + s + us.length * s := by simp only [List.length_cons, Nat.add_mul, Nat.one_mul]; omega
    have e2 : (i0 + 1) * s = i0 * s + s := by simp only [Nat.add_mul, Nat.one_mul]
    have e3 : (i0 + 1 + us.length) * s = i0 * s + s + us.length * s := by simp only [Nat.add_mul, Nat.one_mul]
    rw [e1] at hl
    have hcl : u.cells.toList.length = s := by simpa using hus
    have h6 := foldl_list (i0 * s) u.cells.toList cells (by rw [hcl]; omega)
    have hsz := (Great.foldl_set (i0 * s) u.cells.toList 0 cells).1
    obtain ⟨r, h7, h8⟩ := fill_dense_list hs us (i0 + 1) _ (fun x hx => hu x (List.mem_cons_of_mem _ hx)) (by rw [hsz, e3]; exact hl)
    refine ⟨r, ?_, ?_⟩
    · simp only [List.zipIdx_cons, List.map_cons]
      unfold Instr.fill
      simp only [hus]
      rw [if_neg (by simp; omega)]
      rw [← h7]
      congr 1
      rw [← Array.foldl_toList, Array.toList_zipIdx]
    · have hlc : cells.toList.length = cells.size := Array.length_toList
      have ht : (cells.toList.take (i0 * s)).length = i0 * s := by rw [List.length_take]; omega
      rw [h8, h6, e1, e2, e3, hcl, List.flatMap_cons]
      rw [List.take_append_of_le_length (by rw [List.length_append]; omega), List.take_of_length_le (by rw [List.length_append]; omega), List.drop_append, List.drop_of_length_le (by rw [List.length_append]; omega), List.drop_drop, List.nil_append, List.length_append, ht, hcl]
      simp only [List.append_assoc]
      congr 4
      omega

theorem inOrder_zip {a : Act} : ∀ (ps : List (Nat × Operand)) (k : Nat), inOrder ps k = true → ps.map (fun p => (p.1, a.eval p.2)) = ((ps.map fun p => a.eval p.2).zipIdx k).map fun x => (x.2, x.1)
  | [], k, _ => rfl
  | (i, x) :: t, k, h => by
    simp only [inOrder, Bool.and_eq_true] at h
    have e := Nat.eq_of_beq_eq_true h.1
    subst e
    simp only [List.map_cons, List.zipIdx_cons]
    rw [inOrder_zip t _ h.2]

theorem op_buildSlice (hW : WR w0 M E aw n w) {o : Oper} {a : Act} {t e : TypeId} {te : TI} {len : Nat} {parts : Array (Nat × Operand)} (ht : P.underlying t = some (.slice e)) (hE : TIok P e te) (hz : te.size ≠ 0) (ho : o.op = .buildSlice t len parts)
    {vs : List V} (hv : repVs E vs (parts.toList.map fun p => a.eval p.2)) (hlen : len = parts.toList.length) (hlv : len = vs.length) (hin : inOrder parts.toList 0 = true) (hsz : sizeIs vs te.size = true) {ds : List D} (h : plainAll std vs = some ds) (hs : len * te.size ≤ 16777216) {s : Prop} :
    OpDid P o a aw E n w ⟨.own n len te.size, [(n, .row ds te.size e)], 1, s⟩ := by
  obtain ⟨i, z, dd, hi, his, hby, hz', hzr, hu, _, _, hzs, _⟩ := hE.info
  obtain ⟨h1, h2, h3⟩ := plainAll_rep vs te.size ds h hsz _ hv
  obtain ⟨PM, hPM⟩ : ∃ PM, PM = parts.map fun p => (p.1, a.eval p.2) := ⟨_, rfl⟩
  have hexec : execOp a.eval o = (do pure (.value (← Instr.buildSlice t len PM)) : Sem Next) := by
    rw [hPM]
    unfold execOp
    simp only [ho]
  have run : ∀ cells : Array Value, (Instr.buildSlice t len PM).run P w = .ok (.slice (some ⟨w.heap.size, 0, none⟩) len len) (w.alloc (.cells cells e)) →
      cells.size = len * te.size → (∀ x ∈ cells.toList, x.oneCell' = true) → repDs E.H ds cells.toList → OpDid P o a aw E n w ⟨.own n len te.size, [(n, .row ds te.size e)], 1, s⟩ := by
    intro cells hr h4 h5 h6
    have hex : (execOp a.eval o).run P w = .ok (.value (.slice (some ⟨w.heap.size, 0, none⟩) len len)) (w.alloc (.cells cells e)) := exec_value _ hexec hr
    refine OpDid.value hex (Did.alloc hW (.inr ⟨w.heap.size, _, Emb.add_new, heap_alloc_new w _, by rw [Emb.add_κ], h5, repDs_mono (Emb.le_add hW.none_n).2.2 _ _ h6⟩) ?_)
    simp only [repV]
    have hle : len ≤ len * te.size := Nat.le_mul_of_pos_right _ (by omega)
    exact .inr ⟨_, len, Emb.add_new, rfl, Nat.le_refl _, by unfold maxLen; omega, by rw [Emb.add_κ, h4]⟩
  have hml : (parts.toList.map fun p => a.eval p.2).length = len := by rw [List.length_map]; exact hlen.symm
  rcases Nat.eq_zero_or_pos len with h0 | hp
  · subst h0
    have hpn : parts.toList = [] := List.eq_nil_of_length_eq_zero hlen.symm
    have hpe : parts = #[] := Array.toList_inj.1 hpn
    have hdn : ds = [] := List.eq_nil_of_length_eq_zero (by rw [h3, ← hlv, Nat.zero_mul])
    subst hpe hdn
    refine run #[] ?_ (by simp) (by simp) (by simp [repDs])
    simp [hPM, Instr.buildSlice, run_underlying ht, hE.sizeOf, Instr.fill, newRow, Array.range_zero']
  · have hpos : 0 < len * te.size := Nat.mul_pos hp (by omega)
    obtain ⟨r, h7, h8⟩ := fill_dense_list (s := te.size) (by omega) _ 0 ((Array.range (len * te.size)).map (z.cells[· % z.cells.size]!)) h1 (by rw [hml]; simp)
    have hposi : ¬ len * i.size = 0 := by rw [his]; exact Nat.pos_iff_ne_zero.1 hpos
    have hsmall : ¬ len * i.size > 2 ^ 24 := by
      rw [his, show (2 : Nat) ^ 24 = 16777216 from rfl]
      exact Nat.not_lt.2 hs
    have hr := run_buildSlice (P := P) w t e len PM r i z ht hi hz' hsmall hposi (by
      rw [his, hPM, Array.toList_map, inOrder_zip _ _ hin]
      exact h7)
    have h9 : r.toList = (parts.toList.map fun p => a.eval p.2).flatMap fun u => u.cells.toList := by
      rw [h8, hml, Nat.zero_mul, List.take_zero, List.nil_append, List.drop_of_length_le (by simp), List.append_nil]
    have h10 : ((parts.toList.map fun p => a.eval p.2).flatMap fun u => u.cells.toList).length = len * te.size := by
      rw [List.length_flatMap, ← hml]
      have : ∀ l : List Value, (∀ u ∈ l, u.cells.size = te.size) → (l.map fun u => u.cells.toList.length).sum = l.length * te.size := by
        intro l hl
        induction l with
        | nil => simp
        | cons x l ih =>
          simp only [List.map_cons, List.sum_cons, List.length_cons, Nat.add_mul, Nat.one_mul]
          rw [ih fun u hu => hl u (List.mem_cons_of_mem _ hu)]
          have := hl x List.mem_cons_self
          simp [this]; omega
      exact this _ h1
    refine run r hr ?_ ?_ ?_
    · rw [← h10, ← h9]; simp
    · rw [h9]
      exact repDs_one h2 (by rw [h3, h10, hlv])
    · rw [h9]; exact h2
end
end Go.AX

namespace Go.AX
set_option autoImplicit false
set_option linter.unusedVariables false

def eqVals : List (Option IntKind) → List Value → List Value → Option Bool
  | [], [], [] => some true
  | some q :: ks, .int j a :: s, .int k b :: t => if j = q ∧ k = q then (eqVals ks s t).map (fun r => (a == b) && r) else none
  | none :: ks, .bool a :: s, .bool b :: t => (eqVals ks s t).map (fun r => (a == b) && r)
  | _, _, _ => none

theorem eqVals_cons {q : Option IntKind} {ks : List (Option IntKind)} {x y : Value} {s t : List Value} {r : Bool} (h : eqVals (q :: ks) (x :: s) (y :: t) = some r) :
    ∃ r1 r2, eqVals [q] [x] [y] = some r1 ∧ eqVals ks s t = some r2 ∧ r = (r1 && r2) ∧ ((∃ k a b, q = some k ∧ x = .int k a ∧ y = .int k b ∧ r1 = (a == b)) ∨ (∃ a b, q = none ∧ x = .bool a ∧ y = .bool b ∧ r1 = (a == b))) := by
  unfold eqVals at h
  split at h
  · rename_i e _ _; cases e
  · rename_i q' ks' j a s' k b t' e1 e2 e3
    cases e1; cases e2; cases e3
    split at h
    · rename_i e
      obtain ⟨rfl, rfl⟩ := e
      simp only [Option.map_eq_some_iff] at h
      obtain ⟨p, h1, h2⟩ := h
      exact ⟨a == b, p, by simp [eqVals], h1, h2.symm, .inl ⟨_, a, b, rfl, rfl, rfl, rfl⟩⟩
    · cases h
  · rename_i ks' a s' b t' e1 e2 e3
    cases e1; cases e2; cases e3
    simp only [Option.map_eq_some_iff] at h
    obtain ⟨p, h1, h2⟩ := h
    exact ⟨a == b, p, by simp [eqVals], h1, h2.symm, .inr ⟨a, b, rfl, rfl, rfl, rfl⟩⟩
  · cases h

theorem eqVals_join {q : Option IntKind} {ks : List (Option IntKind)} {x y : Value} {s t : List Value} {r1 r2 : Bool} (h1 : eqVals [q] [x] [y] = some r1) (h2 : eqVals ks s t = some r2) : eqVals (q :: ks) (x :: s) (y :: t) = some (r1 && r2) := by
  obtain ⟨p1, p2, _, h4, h5, h6⟩ := eqVals_cons h1
  simp only [eqVals, Option.some.injEq] at h4
  subst h4
  rcases h6 with ⟨k, a, b, rfl, rfl, rfl, rfl⟩ | ⟨a, b, rfl, rfl, rfl, rfl⟩
  · simp only [eqVals, and_self, if_true, h2, Option.map_some]
    simp only [Bool.and_true] at h5
    rw [h5]
  · simp only [eqVals, h2, Option.map_some]
    simp only [Bool.and_true] at h5
    rw [h5]

theorem eqVals_append : ∀ (k1 k2 : List (Option IntKind)) (x1 y1 x2 y2 : List Value) (r : Bool), k1.length = x1.length → x1.length = y1.length → eqVals (k1 ++ k2) (x1 ++ x2) (y1 ++ y2) = some r → ∃ r1 r2, eqVals k1 x1 y1 = some r1 ∧ eqVals k2 x2 y2 = some r2 ∧ r = (r1 && r2)
  | [], k2, [], [], x2, y2, r, _, _, h => ⟨true, r, rfl, h, by simp⟩
  | [], _, [], _ :: _, _, _, _, _, hl, _ => by simp at hl
  | [], _, _ :: _, _, _, _, _, hl, _, _ => by simp at hl
  | _ :: _, _, [], _, _, _, _, hl, _, _ => by simp at hl
  | _ :: _, _, _ :: _, [], _, _, _, _, hl, _ => by simp at hl
  | q :: k1, k2, a :: x1, b :: y1, x2, y2, r, hk, hl, h => by
    simp only [List.cons_append] at h
    obtain ⟨r1, r2, h1, h2, h3, _⟩ := eqVals_cons h
    obtain ⟨r3, r4, h4, h5, h6⟩ := eqVals_append k1 k2 x1 y1 x2 y2 r2 (by simpa using hk) (by simpa using hl) h2
    exact ⟨r1 && r3, r4, eqVals_join h1 h4, h5, by rw [h3, h6, Bool.and_assoc]⟩

theorem conj_std : ∀ l : List Bool, conj std l = l.all id
  | [] => rfl
  | [b] => by simp [conj]
  | b :: c :: t => by
    simp only [conj]
    rw [conj_std (c :: t)]
    rfl

theorem eqList_vals {E : Emb} : ∀ (ks : List (Option IntKind)) (l m : List V) (r : List Bool), eqList std ks l m = some r → ∀ xs ys, repC E l xs → repC E m ys → eqVals ks xs ys = some (r.all id) := by
  have hd : ∀ (d : D) (t : List V) (xs : List Value), repC E (.d d :: t) xs → ∃ u us, xs = u :: us ∧ repD E.H d u ∧ repC E t us := by
    intro d t xs h
    simp only [repC] at h
    rcases h with ⟨n, l, a, b, e, _⟩ | ⟨u, us, rfl, h2, h3, h4⟩
    · cases e
    · exact ⟨u, us, rfl, by simpa only [repV] using h3, h4⟩
  intro ks
  induction ks with
  | nil =>
    intro l m r h xs ys hx hy
    cases l with
    | nil =>
      cases m with
      | nil => cases h; simp only [repC] at hx hy; subst hx hy; rfl
      | cons => cases h
    | cons x s =>
      simp only [eqList] at h
      cases h
  | cons q ks ih =>
    intro l m r h xs ys hx hy
    cases l with
    | nil => cases q <;> simp only [eqList] at h <;> cases h
    | cons x s =>
      cases m with
      | nil => cases q <;> simp only [eqList] at h <;> cases h
      | cons y t =>
        cases x <;> first | (cases q <;> simp only [eqList] at h <;> cases h; done) | skip
        rename_i dx
        cases y <;> first | (cases q <;> simp only [eqList] at h <;> cases h; done) | skip
        rename_i dy
        obtain ⟨u, us, rfl, h1, h2⟩ := hd _ _ _ hx
        obtain ⟨v, vs, rfl, h3, h4⟩ := hd _ _ _ hy
        cases q with
        | none =>
          cases dx <;> first | (simp only [eqList] at h; cases h; done) | skip
          cases dy <;> first | (simp only [eqList] at h; cases h; done) | skip
          simp only [eqList] at h
          split at h
          · rename_i p hp
            cases h
            simp only [repD] at h1 h3
            subst h1 h3
            simp [eqVals, ih _ _ p hp us vs h2 h4, std]
          · cases h
        | some q =>
          cases dx <;> first | (simp only [eqList] at h; cases h; done) | skip
          cases dy <;> first | (simp only [eqList] at h; cases h; done) | skip
          simp only [eqList, cond_eq_ite, Bool.and_eq_true, decide_eq_true_eq] at h
          split at h
          · rename_i e
            obtain ⟨rfl, rfl⟩ := e
            split at h
            · rename_i p hp
              cases h
              simp only [repD] at h1 h3
              subst h1 h3
              simp [eqVals, ih _ _ p hp us vs h2 h4, std, cmpI]
            · cases h
          · cases h

def offsOk (P : Program) : List Field → Nat → Nat → Bool
  | [], o, n => Nat.beq o n
  | f :: fs, o, n => Nat.beq f.offset o && offsOk P fs (o + P.cellsOf f.type) n

def joinK (f : Field → Option (List (Option IntKind))) : List Field → Option (List (Option IntKind))
  | [] => some []
  | g :: gs => match f g, joinK f gs with
    | some a, some b => some (a ++ b)
    | _, _ => none

def repK (l : List (Option IntKind)) : Nat → List (Option IntKind)
  | 0 => []
  | n + 1 => l ++ repK l n

def eqTy (P : Program) : Nat → TypeId → Option (List (Option IntKind))
  | 0, _ => none
  | d + 1, t => bif (P.info? t).isSome then (match P.underlying t with
    | some (.int k) => bif Nat.beq (P.cellsOf t) 1 then some [some k] else none
    | some .bool => bif Nat.beq (P.cellsOf t) 1 then some [none] else none
    | some (.struct fs) => bif (!P.stoodInHeld t && offsOk P fs.toList 0 (P.cellsOf t) && fs.toList.all fun f => f.name != "_") then joinK (fun f => eqTy P d f.type) fs.toList else none
    | some (.array n e) => (match eqTy P d e with
      | some l => bif Nat.beq (P.cellsOf t) (n * P.cellsOf e) then some (repK l n) else none
      | none => none)
    | _ => none) else none

section
variable {P : Program}

def wrapV (P : Program) (t : TypeId) (xs : List Value) : Value :=
  match P.underlying t with
  | some (.struct _) | some (.array _ _) => .agg xs.toArray
  | _ => xs.headD undef

theorem run_sizeOf' {w : World} {t : TypeId} (hi : (P.info? t).isSome = true) : (Go.sizeOf t).run P w = .ok (P.cellsOf t) w := by
  cases h : P.info? t with
  | none => rw [h] at hi; cases hi
  | some i => simp [Go.sizeOf, typeInfo, h, Program.cellsOf]

theorem run_part {w : World} {t : TypeId} {d : TypeDesc} (hi : (P.info? t).isSome = true) (hu : P.underlying t = some d) (cs : Array Value) (off : Nat) (h : off + P.cellsOf t ≤ cs.size) (h0 : 0 < P.cellsOf t ∨ isAggD d = true) :
    (part t cs off).run P w = .ok (wrapV P t ((cs.toList.drop off).take (P.cellsOf t))) w := by
  have agg : isAggD d = true → (part t cs off).run P w = .ok (.agg ((cs.toList.drop off).take (P.cellsOf t)).toArray) w := by
    intro hd
    have e : (Go.isAgg t).run P w = .ok true w := by
      simp only [Go.isAgg, Sem.run_bind, run_underlying hu, Result.andThen_ok]
      cases d <;> first | rfl | cases hd
    simp only [part, Sem.run_bind, e, Result.andThen_ok, if_true, run_sizeOf' hi, Sem.run_pure]
    congr 2
    apply Array.toList_inj.1
    simp
  have one : isAggD d = false → 0 < P.cellsOf t → (part t cs off).run P w = .ok (((cs.toList.drop off).take (P.cellsOf t)).headD undef) w := by
    intro hd hp
    have e : (Go.isAgg t).run P w = .ok false w := by
      simp only [Go.isAgg, Sem.run_bind, run_underlying hu, Result.andThen_ok]
      cases d <;> first | rfl | cases hd
    have hlt : off < cs.size := by omega
    have h1 : cs[off]? = some cs[off] := by simp [hlt]
    simp only [part, Sem.run_bind, e, Result.andThen_ok, Bool.false_eq_true, if_false, h1, Sem.run_pure]
    congr 1
    rw [List.headD_eq_head?_getD, List.head?_take, if_neg (by omega), List.head?_drop]
    simp [hlt]
  unfold wrapV
  rw [hu]
  cases d
  case struct fs => exact agg rfl
  case array n e => exact agg rfl
  all_goals exact one rfl (h0.resolve_right (by simp [isAggD]))

theorem offsOk_le : ∀ (gs : List Field) (o n : Nat), offsOk P gs o n = true → o ≤ n
  | [], o, n, h => by have := Nat.eq_of_beq_eq_true h; omega
  | g :: gs, o, n, h => by
    simp only [offsOk, Bool.and_eq_true] at h
    have := offsOk_le gs _ n h.2
    omega

theorem eqTy_info {d : Nat} {t : TypeId} {ks : List (Option IntKind)} (h : eqTy P d t = some ks) : (P.info? t).isSome = true ∧ ∃ dd, P.underlying t = some dd ∧ (0 < P.cellsOf t ∨ isAggD dd = true) := by
  cases d with
  | zero => cases h
  | succ d =>
    simp only [eqTy, cond_eq_ite] at h
    split at h
    · rename_i hi
      refine ⟨hi, ?_⟩
      split at h
      · rename_i hu'
        split at h
        · rename_i h1; exact ⟨_, hu', .inl (by have := Nat.eq_of_beq_eq_true h1; omega)⟩
        · cases h
      · rename_i hu'
        split at h
        · rename_i h1; exact ⟨_, hu', .inl (by have := Nat.eq_of_beq_eq_true h1; omega)⟩
        · cases h
      · rename_i hu'; exact ⟨_, hu', .inr rfl⟩
      · rename_i hu'; exact ⟨_, hu', .inr rfl⟩
      · cases h
    · cases h

theorem eqVals_len : ∀ (ks : List (Option IntKind)) (xs ys : List Value) (r : Bool), eqVals ks xs ys = some r → ks.length = xs.length ∧ xs.length = ys.length
  | [], [], [], r, h => ⟨rfl, rfl⟩
  | [], [], _ :: _, r, h => by simp only [eqVals] at h; cases h
  | [], _ :: _, _, r, h => by simp only [eqVals] at h; cases h
  | q :: ks, [], ys, r, h => by cases q <;> cases ys <;> cases h
  | q :: ks, x :: s, [], r, h => by cases q <;> cases x <;> cases h
  | q :: ks, x :: s, y :: t, r, h => by
    obtain ⟨r1, r2, h1, h2, _⟩ := eqVals_cons h
    obtain ⟨h3, h4⟩ := eqVals_len ks s t r2 h2
    simp [h3, h4]

theorem eqTy_len : ∀ (d : Nat) (t : TypeId) (ks : List (Option IntKind)), eqTy P d t = some ks → ks.length = P.cellsOf t
  | 0, t, ks, h => by cases h
  | d + 1, t, ks, h => by
    simp only [eqTy, cond_eq_ite] at h
    split at h
    · split at h
      · split at h
        · rename_i h1; cases h; exact (Nat.eq_of_beq_eq_true h1).symm
        · cases h
      · split at h
        · rename_i h1; cases h; exact (Nat.eq_of_beq_eq_true h1).symm
        · cases h
      · split at h
        · rename_i fs hu hc
          simp only [Bool.and_eq_true] at hc
          have key : ∀ (gs : List Field) (o : Nat) (ks : List (Option IntKind)), joinK (fun f => eqTy P d f.type) gs = some ks → offsOk P gs o (P.cellsOf t) = true → o + ks.length = P.cellsOf t := by
            intro gs
            induction gs with
            | nil => intro o ks h1 h2; cases h1; exact Nat.eq_of_beq_eq_true h2
            | cons g gs ih =>
              intro o ks h1 h2
              simp only [joinK] at h1
              simp only [offsOk, Bool.and_eq_true] at h2
              split at h1
              · rename_i a b h3 h4
                cases h1
                have := ih _ _ h4 h2.2
                have h5 := eqTy_len d _ _ h3
                rw [List.length_append]; omega
              · cases h1
          have := key _ 0 ks h hc.1.2
          omega
        · cases h
      · rename_i n e hu
        split at h
        · rename_i l hl
          split at h
          · rename_i h1
            cases h
            rw [Nat.eq_of_beq_eq_true h1, ← eqTy_len d e l hl]
            clear h1 hu
            induction n with
            | zero => simp [repK]
            | succ n ih => simp only [repK, List.length_append, ih, Nat.add_mul]; omega
          · cases h
        · cases h
      · cases h
    · cases h

theorem eq_run : ∀ (d : Nat) (t : TypeId) (ks : List (Option IntKind)), eqTy P d t = some ks → ∀ (xs ys : List Value) (r : Bool), eqVals ks xs ys = some r → ∀ (D : Nat) (w : World), d ≤ D →
    (Op.equalIn D t (wrapV P t xs) (wrapV P t ys)).run P w = .ok r w
  | 0, t, ks, h => by cases h
  | d + 1, t, ks, h => by
    intro xs ys r hr D w hD
    obtain ⟨D, rfl⟩ : ∃ q, D = q + 1 := ⟨D - 1, by omega⟩
    have hlen := eqTy_len _ _ _ h
    obtain ⟨hl1, hl2⟩ := eqVals_len _ _ _ _ hr
    simp only [eqTy, cond_eq_ite] at h
    split at h
    case isFalse => cases h
    rename_i hi
    split at h
    · rename_i k hu
      split at h
      case isFalse => cases h
      cases h
      obtain ⟨x, rfl⟩ := List.length_eq_one_iff.1 hl1.symm
      obtain ⟨y, rfl⟩ := List.length_eq_one_iff.1 (hl2.symm.trans hl1.symm)
      have e : ∀ z, wrapV P t [z] = z := by intro z; unfold wrapV; rw [hu]; rfl
      rw [e, e]
      obtain ⟨r1, r2, _, h2, h3, h4⟩ := eqVals_cons hr
      cases h2
      rcases h4 with ⟨k', a, b, _, rfl, rfl, rfl⟩ | ⟨a, b, e, _⟩
      · rw [run_equalIn_int w D t _ _ a b hu, h3, Bool.and_true]
      · cases e
    · rename_i hu
      split at h
      case isFalse => cases h
      cases h
      obtain ⟨x, rfl⟩ := List.length_eq_one_iff.1 hl1.symm
      obtain ⟨y, rfl⟩ := List.length_eq_one_iff.1 (hl2.symm.trans hl1.symm)
      have e : ∀ z, wrapV P t [z] = z := by intro z; unfold wrapV; rw [hu]; rfl
      rw [e, e]
      obtain ⟨r1, r2, _, h2, h3, h4⟩ := eqVals_cons hr
      cases h2
      rcases h4 with ⟨k', a, b, e, _⟩ | ⟨a, b, _, rfl, rfl, rfl⟩
      · cases e
      · rw [run_equalIn_bool w D t a b hu, h3, Bool.and_true]
    · rename_i fs hu
      split at h
      case isFalse => cases h
      rename_i hc
      simp only [Bool.and_eq_true, Bool.not_eq_true', List.all_eq_true, bne_iff_ne, ne_eq] at hc
      obtain ⟨⟨hp, ho⟩, hf⟩ := hc
      have e : ∀ z, wrapV P t z = .agg z.toArray := by intro z; unfold wrapV; rw [hu]
      rw [e, e]
      have hfo : P.fieldsOf t = fs := by unfold Program.fieldsOf; rw [hu]
      rw [run_equalIn_struct w D t _ _ (by rw [hu, hfo]) hp, hfo]
      have key : ∀ (gs : List Field) (o : Nat) (ks : List (Option IntKind)) (r : Bool), (∀ f ∈ gs, f ∈ fs.toList) → joinK (fun f => eqTy P d f.type) gs = some ks → offsOk P gs o (P.cellsOf t) = true → eqVals ks (xs.drop o) (ys.drop o) = some r → (Op.eqFields D xs.toArray ys.toArray gs).run P w = .ok r w := by
        intro gs
        induction gs with
        | nil =>
          intro o ks r _ hk ho hr
          cases hk
          have := Nat.eq_of_beq_eq_true ho
          rw [List.drop_of_length_le (by omega), List.drop_of_length_le (by omega)] at hr
          cases hr
          simp [Op.eqFields]
        | cons g gs ih =>
          intro o ks r hm hk ho hr
          simp only [joinK] at hk
          split at hk
          case h_2 => cases hk
          rename_i ka kb hka hkb
          cases hk
          simp only [offsOk, Bool.and_eq_true] at ho
          have ho1 := Nat.eq_of_beq_eq_true ho.1
          have hname := hf g (hm g List.mem_cons_self)
          have hkl := eqTy_len _ _ _ hka
          have hle := offsOk_le _ _ _ ho.2
          obtain ⟨ha1, ha2⟩ := eqVals_len _ _ _ _ hr
          rw [List.length_append, List.length_drop] at ha1
          rw [List.length_drop, List.length_drop] at ha2
          have hlx : ((xs.drop o).take (P.cellsOf g.type)).length = P.cellsOf g.type := by rw [List.length_take, List.length_drop]; omega
          have hly : ((ys.drop o).take (P.cellsOf g.type)).length = P.cellsOf g.type := by rw [List.length_take, List.length_drop]; omega
          rw [← List.take_append_drop (P.cellsOf g.type) (xs.drop o), ← List.take_append_drop (P.cellsOf g.type) (ys.drop o)] at hr
          obtain ⟨r1, r2, h1, h2, h3⟩ := eqVals_append _ _ _ _ _ _ _ (by rw [hlx, hkl]) (by rw [hlx, hly]) hr
          rw [List.drop_drop, List.drop_drop] at h2
          have hrec := eq_run d g.type _ hka _ _ r1 h1 D w (by omega)
          have hrest := ih _ _ r2 (fun f hf' => hm f (List.mem_cons_of_mem _ hf')) hkb ho.2 h2
          obtain ⟨hi', dd, hu', h0⟩ := eqTy_info hka
          have p1 := run_part (P := P) (w := w) hi' hu' xs.toArray g.offset (by simp; omega) h0
          have p2 := run_part (P := P) (w := w) hi' hu' ys.toArray g.offset (by simp; omega) h0
          simp only [ho1] at p1 p2
          simp only [Op.eqFields, ne_eq, hname, not_false_eq_true, if_true, Sem.run_bind, ho1, p1, p2, Result.andThen_ok, hrec]
          rw [h3]
          cases r1
          · simp
          · simp [hrest]
      exact key fs.toList 0 ks r (fun f hf => hf) h ho (by simpa using hr)
    · rename_i n e hu
      split at h
      case h_2 => cases h
      rename_i l hl
      split at h
      case isFalse => cases h
      cases h
      have e' : ∀ z, wrapV P t z = .agg z.toArray := by intro z; unfold wrapV; rw [hu]
      rw [e', e']
      have hkl := eqTy_len _ _ _ hl
      obtain ⟨hi', dd, hu', h0⟩ := eqTy_info hl
      have hsz := eqTy_len _ _ _ hl
      have hkr : ∀ q, (repK l q).length = q * P.cellsOf e := by
        intro q
        induction q with
        | zero => simp [repK]
        | succ q ih => simp only [repK, List.length_append, ih, Nat.add_mul, hsz]; omega
      have hxl : xs.length = n * P.cellsOf e := by rw [← hl1, hkr]
      have hyl : ys.length = n * P.cellsOf e := by rw [← hl2, hxl]
      have loop : ∀ (q i : Nat) (r : Bool), i + q = n → eqVals (repK l q) (xs.drop (i * P.cellsOf e)) (ys.drop (i * P.cellsOf e)) = some r →
          (do
            let s ← forIn (List.range' i q) ((none, ()) : Option Bool × PUnit) fun i r => do
              let a ← part e xs.toArray (i * P.cellsOf e)
              let b ← part e ys.toArray (i * P.cellsOf e)
              let eq ← Op.equalIn D e a b
              if (!eq) = true then pure (ForInStep.done (some false, ())) else pure (ForInStep.yield (none, ()))
            match s.fst with
            | some a => pure a
            | none => pure true : Sem Bool).run P w = .ok r w := by
        intro q
        induction q with
        | zero =>
          intro i r hi' hr
          simp only [repK] at hr
          obtain ⟨h1, h2⟩ := eqVals_len _ _ _ _ hr
          have h3 : xs.drop (i * P.cellsOf e) = [] := List.eq_nil_of_length_eq_zero h1.symm
          have h4 : ys.drop (i * P.cellsOf e) = [] := List.eq_nil_of_length_eq_zero (by rw [← h2, h3]; rfl)
          rw [h3, h4] at hr
          cases hr
          simp
        | succ q ih =>
          intro i r hi2 hr
          simp only [repK] at hr
          have hle : i * P.cellsOf e + P.cellsOf e ≤ n * P.cellsOf e := by
            rw [← hi2, ← Nat.succ_mul]; exact Nat.mul_le_mul_right _ (by omega)
          have hlx : ((xs.drop (i * P.cellsOf e)).take (P.cellsOf e)).length = P.cellsOf e := by rw [List.length_take, List.length_drop]; omega
          have hly : ((ys.drop (i * P.cellsOf e)).take (P.cellsOf e)).length = P.cellsOf e := by rw [List.length_take, List.length_drop]; omega
          rw [← List.take_append_drop (P.cellsOf e) (xs.drop (i * P.cellsOf e)), ← List.take_append_drop (P.cellsOf e) (ys.drop (i * P.cellsOf e))] at hr
          obtain ⟨r1, r2, h1, h2, h3⟩ := eqVals_append _ _ _ _ _ _ _ (by rw [hlx, hsz]) (by rw [hlx, hly]) hr
          rw [List.drop_drop, List.drop_drop, ← Nat.succ_mul] at h2
          have hrec := eq_run d e _ hl _ _ r1 h1 D w (by omega)
          have hrest := ih (i + 1) r2 (by omega) h2
          have p1 := run_part (P := P) (w := w) hi' hu' xs.toArray (i * P.cellsOf e) (by simp; omega) h0
          have p2 := run_part (P := P) (w := w) hi' hu' ys.toArray (i * P.cellsOf e) (by simp; omega) h0
          simp only [List.range'_succ, List.forIn_cons, Sem.run_bind, p1, p2, Result.andThen_ok, hrec] at hrest ⊢
          rw [h3]
          cases r1
          · simp
          · simpa using hrest
      have := loop n 0 r (by omega) (by simpa using hr)
      simp only [Op.equalIn, Sem.run_bind, run_underlying hu, Result.andThen_ok, run_sizeOf' hi'] at this ⊢
      rw [Std.Legacy.Range.forIn_eq_forIn_range']
      simp only [Std.Legacy.Range.size, Nat.sub_zero, Nat.add_sub_cancel, Nat.div_one]
      refine Eq.trans ?_ this
      congr 1
      funext a w'
      obtain ⟨o, u⟩ := a
      cases o <;> rfl
    · cases h
end
end Go.AX

namespace Go.AX
set_option autoImplicit false
set_option linter.unusedVariables false
set_option linter.unusedSimpArgs false

section
variable {P : Program} {w0 : World} {M : Nat → Prop} {E : Emb} {aw : List (Nat × Blk)} {n : Nat} {w : World}

theorem run_copy_k {dT e ty : TypeId} {te : TI} (hu : P.underlying dT = some (.slice e)) (hE : TIok P e te) (sT : TypeId) (g o dLen dCap : Nat) (a : Option Addr) (sLen sCap : Nat) (cur : Array Value) (t : TypeId) (cs : List Value)
    (hg : w.heap[g]? = some (.cells cur t (0, 0))) (hn : cs.length = Nat.min sLen dLen * te.size) (hsrc : Nat.min sLen dLen = 0 ∨ ∃ q, a = some q ∧ ∀ j v, cs[j]? = some v → w.cell? (q.add j) = some v) (hfit : o + cs.length ≤ cur.size) (h1 : ∀ v ∈ cs, v.oneCell' = true) :
    (Builtin.copy_ #[dT, sT] ty #[.slice (some ⟨g, o, none⟩) dLen dCap, .slice a sLen sCap]).run P w =
      .ok (goInt (Nat.min sLen dLen)) (w.setRow g (cur.toList.take o ++ cs ++ cur.toList.drop (o + cs.length)).toArray) := by
  obtain ⟨i, z, dd, hi, hsz, _⟩ := hE.info
  have hst := run_storeCells_at P g o t cs 0 cur w hg (by simpa using hfit) h1
  simp only [Nat.add_zero] at hst
  rcases hsrc with h0 | ⟨q, rfl, hq⟩
  · have hc : cs = [] := List.eq_nil_of_length_eq_zero (by rw [hn, h0]; simp)
    subst hc
    have hl : ∀ (x : Addr), (loadCells x 0).run P w = .ok #[] w := fun x => by simpa using run_loadCells_list (P := P) w x [] (by simp)
    cases a with
    | none => simp [Builtin.copy_, run_underlying hu, Builtin.lenOf, Builtin.firstCells, sizeOf, typeInfo, hi, h0]; simp at hst; rw [hst]; rfl
    | some q => simp [Builtin.copy_, run_underlying hu, Builtin.lenOf, Builtin.firstCells, sizeOf, typeInfo, hi, h0, hl]; simp at hst; rw [hst]; rfl
  · have hl := run_loadCells_list (P := P) w q cs hq
    rw [hn] at hl
    simp [Builtin.copy_, run_underlying hu, Builtin.lenOf, Builtin.firstCells, sizeOf, typeInfo, hi, hsz, hl, hst]

theorem repDs_over {H : Nat → Option Obj} {l ds : List D} {vs us : List Value} (h : repDs H l vs) (hd : repDs H ds us) (hl : ds.length = us.length) {o : Nat} (ho : o + us.length ≤ l.length) : repDs H (std.over l o ds) (vs.take o ++ us ++ vs.drop (o + us.length)) := by
  have hle := repDs_len _ _ h
  show repDs H (l.take o ++ ds ++ l.drop (o + ds.length)) _
  rw [hl]
  exact repDs_app (repDs_app (repDs_take h o) (by rw [List.length_take, List.length_take]; omega) hd) (by rw [List.length_append, List.length_append, List.length_take, List.length_take]; omega) (repDs_drop h _)

theorem op_copy (hW : WR w0 M E aw n w) {o : Oper} {a : Act} {t e : TypeId} {te : TI} {x y : Operand} (ht : P.underlying t = some (.slice e)) (hE : TIok P e te)
    (ho : o.op = .call ⟨.builtin .copy, #[x, y], #[t, t]⟩) {v u : V} (hv : repV E v (a.eval x)) (hu : repV E u (a.eval y)) {bs : List Blk} (hbs : blks aw (ids [v, u]) = some bs)
    {r : Res} (h : rCopy std te.size v u bs = some r) (hs : r.side) : OpDid P o a aw E n w r := by
  have run : ∀ r w', (Builtin.copy_ #[t, t] o.type #[a.eval x, a.eval y]).run P w = .ok r w' → (execOp a.eval o).run P w = .ok (.value r) w' := by
    intro r w' hr
    rw [exec_builtin ho]
    simp only [builtin, List.map_toArray, List.map_cons, List.map_nil, Sem.run_bind, hr, Result.andThen_ok, Sem.run_pure]
  -- what is read
  have src : ∀ (ds : List D) (m : Nat) (p : Prop), seen std te.size u (lastB bs) = some (ds, m, p) → p → ∀ len, ∃ xa c cs, a.eval y = .slice xa m c ∧ cs.length = Nat.min m len * te.size ∧ repDs E.H (ds.take (Nat.min m len * te.size)) cs ∧ (ds.take (Nat.min m len * te.size)).length = cs.length ∧
      (∀ x ∈ cs, x.oneCell' = true) ∧ (Nat.min m len = 0 ∨ ∃ q, xa = some q ∧ ∀ j u, cs[j]? = some u → w.cell? (q.add j) = some u) := by
    intro ds m p hseen hp len
    obtain ⟨xa, c, news, h1, h2, h3, h4, h5⟩ := seen_rep hW hu (blks_last hbs) hseen hp
    have hmin : Nat.min m len ≤ m := Nat.min_le_left _ _
    have hmk : Nat.min m len * te.size ≤ m * te.size := Nat.mul_le_mul_right _ hmin
    refine ⟨xa, c, news.take (Nat.min m len * te.size), h1, by rw [List.length_take]; omega, repDs_take h3 _, by rw [List.length_take, List.length_take]; omega, fun x hx => repDs_one h3 (by omega) x (List.mem_of_mem_take hx), ?_⟩
    rcases h5 with h5 | ⟨q, h6, h7⟩
    · left; rw [h5]; simp
    · exact .inr ⟨q, h6, fun j u hj => h7 j u (by rw [List.getElem?_take] at hj; split at hj; exact hj; cases hj)⟩
  have first : ∀ {i : Nat} {b : Blk} {bs' : List Blk}, v.id? = some i → bs = b :: bs' → look aw i = some b := by
    intro i b bs' hi hb
    subst hb
    simp only [ids, hi] at hbs
    simp only [blks] at hbs
    split at hbs
    · rename_i b r' h1 h2; cases hbs; exact h1
    · cases hbs
  unfold rCopy at h
  split at h
  · rename_i id len k' l k2 e2 bs'
    simp only [cond_eq_ite, Bool.and_eq_true] at h
    split at h
    · rename_i hk
      have hk1 := Nat.eq_of_beq_eq_true hk.1
      have hk2 := Nat.eq_of_beq_eq_true hk.2
      subst hk1 hk2
      split at h
      · rename_i ds m p hseen
        cases h
        obtain ⟨hp, hb0⟩ := hs
        have hb0 : len * te.size ≤ l.length := hb0
        have hlook := first rfl rfl
        obtain ⟨xa, c, cs, h1, h2, h3, h4, h5, h6⟩ := src ds m p hseen hp len
        have hmin : Nat.min m len ≤ len := Nat.min_le_right _ _
        have hmk : Nat.min m len * te.size ≤ len * te.size := Nat.mul_le_mul_right _ hmin
        simp only [repV] at hv
        have hbk := hW.blk _ _ hlook
        rcases hv with ⟨g1, rfl, hx⟩ | ⟨b, cap, g1, hx, hlc, hcm, hκ⟩
        · have hl0 : l = [] := by
            rcases hbk with ⟨_, h2⟩ | ⟨b', c, h2, _⟩
            · exact h2
            · rw [g1] at h2; cases h2
          subst hl0
          obtain ⟨i, z, dd, hi, hsz, _⟩ := hE.info
          have hmin0 : Nat.min m 0 = 0 := by simp
          have hrun : (Builtin.copy_ #[t, t] o.type #[a.eval x, a.eval y]).run P w = .ok (goInt 0) w := by
            rw [hx, h1]
            have hl : ∀ (x : Addr), (loadCells x 0).run P w = .ok #[] w := fun x => by simpa using run_loadCells_list (P := P) w x [] (by simp)
            cases xa <;> simp [Builtin.copy_, run_underlying ht, Builtin.lenOf, Builtin.firstCells, sizeOf, typeInfo, hi, hl]
          refine OpDid.value (run _ _ hrun) (did_put hW (row := none) (grownBy_refl w none) (fun b hb => by cases hb) ?_ hlook rfl ?_)
          · refine .inl ⟨g1, ?_⟩
            show List.take 0 [] ++ List.take (Nat.min m 0 * te.size) ds ++ List.drop _ [] = []
            rw [hmin0]; simp
          · show repV E (.d (.int .i64 ((Nat.min m 0 : Nat) : Int))) _
            rw [hmin0]; simp only [repV, repD]; rfl
        · rcases hbk with ⟨g2, _⟩ | ⟨b', cc, g2, g3, g4, g5, g6⟩
          · rw [g1] at g2; cases g2
          rw [g1] at g2; cases g2
          have hll := repDs_len _ _ g6
          have hrun := run_copy_k (ty := o.type) ht hE t b 0 len cap xa m c cc e2 cs g3 h2 h6 (by rw [h2]; simp only [Array.length_toList] at hll; omega) h5
          rw [← hx, ← h1] at hrun
          have hov := repDs_over g6 h3 h4 (o := 0) (by rw [h2]; omega)
          refine OpDid.value (run _ _ hrun) (did_put hW (grownBy_setRow _ _ _) (fun b hb => by cases hb; exact g1) (.inr ⟨b, _, g1, setRow_heap w b cc _ e2 _ g3, ?_, ?_, hov⟩) hlook rfl ?_)
          · rw [← g4]
            simp only [List.size_toArray, List.length_append, List.length_take, List.length_drop, h2, Array.length_toList] at hll ⊢
            omega
          · intro z hz
            simp only [List.mem_append] at hz
            rcases hz with (hz | hz) | hz
            · exact g5 z (List.mem_of_mem_take hz)
            · exact h5 z hz
            · exact g5 z (List.mem_of_mem_drop hz)
          · simp only [repV, repD]; rfl
      · cases h
    · cases h
  · rename_i id off len k' l k2 e2 bs'
    simp only [cond_eq_ite, Bool.and_eq_true] at h
    split at h
    · rename_i hk
      have hk1 := Nat.eq_of_beq_eq_true hk.1
      have hk2 := Nat.eq_of_beq_eq_true hk.2
      subst hk1 hk2
      split at h
      · rename_i ds m p hseen
        cases h
        obtain ⟨hp, hb0⟩ := hs
        have hb0 : off + len * te.size ≤ l.length := hb0
        have hlook := first rfl rfl
        obtain ⟨xa, c, cs, h1, h2, h3, h4, h5, h6⟩ := src ds m p hseen hp len
        have hmin : Nat.min m len ≤ len := Nat.min_le_right _ _
        have hmk : Nat.min m len * te.size ≤ len * te.size := Nat.mul_le_mul_right _ hmin
        simp only [repV] at hv
        have hbk := hW.blk _ _ hlook
        obtain ⟨b, cap, o', g1, hx, hlc, hoo⟩ := hv
        rcases hbk with ⟨g2, _⟩ | ⟨b', cc, g2, g3, g4, g5, g6⟩
        · rw [g1] at g2; cases g2
        rw [g1] at g2; cases g2
        have hll := repDs_len _ _ g6
        by_cases hlen0 : len = 0
        · subst hlen0
          obtain ⟨i, z, dd, hi, hsz, _⟩ := hE.info
          have hmin0 : Nat.min m 0 = 0 := by simp
          have hst : (storeCells ⟨b, o', none⟩ [] 0).run P w = .ok () w := rfl
          have hrun : (Builtin.copy_ #[t, t] o.type #[a.eval x, a.eval y]).run P w = .ok (goInt 0) w := by
            rw [hx, h1]
            have hl : ∀ (x : Addr), (loadCells x 0).run P w = .ok #[] w := fun x => by simpa using run_loadCells_list (P := P) w x [] (by simp)
            cases xa <;> simp [Builtin.copy_, run_underlying ht, Builtin.lenOf, Builtin.firstCells, sizeOf, typeInfo, hi, hl, hst]
          refine OpDid.value (run _ _ hrun) (did_put hW (row := none) (grownBy_refl w none) (fun b hb => by cases hb) (.inr ⟨b, cc, g1, g3, g4, g5, ?_⟩) hlook rfl ?_)
          · show repDs E.H (List.take off l ++ List.take (Nat.min m 0 * te.size) ds ++ List.drop (off + (List.take (Nat.min m 0 * te.size) ds).length) l) _
            rw [hmin0]; simpa using g6
          · show repV E (.d (.int .i64 ((Nat.min m 0 : Nat) : Int))) _
            rw [hmin0]; simp only [repV, repD]; rfl
        · have := hoo hlen0
          subst this
          have hrun := run_copy_k (ty := o.type) ht hE t b o' len cap xa m c cc e2 cs g3 h2 h6 (by rw [h2]; simp only [Array.length_toList] at hll; omega) h5
          rw [← hx, ← h1] at hrun
          have hov := repDs_over g6 h3 h4 (o := o') (by rw [h2]; omega)
          refine OpDid.value (run _ _ hrun) (did_put hW (grownBy_setRow _ _ _) (fun b hb => by cases hb; exact g1) (.inr ⟨b, _, g1, setRow_heap w b cc _ e2 _ g3, ?_, ?_, hov⟩) hlook rfl ?_)
          · rw [← g4]
            simp only [List.size_toArray, List.length_append, List.length_take, List.length_drop, h2, Array.length_toList] at hll ⊢
            omega
          · intro z hz
            simp only [List.mem_append] at hz
            rcases hz with (hz | hz) | hz
            · exact g5 z (List.mem_of_mem_take hz)
            · exact h5 z hz
            · exact g5 z (List.mem_of_mem_drop hz)
          · simp only [repV, repD]; rfl
      · cases h
    · cases h
  · rename_i id s m' k' len l bs'
    simp only [cond_eq_ite] at h
    split at h
    · rename_i hk
      have hk1 := Nat.eq_of_beq_eq_true hk
      subst hk1
      split at h
      · rename_i q d hcut
        split at h
        · rename_i ds m p hseen
          split at h
          · rename_i l' hl'
            cases h
            obtain ⟨hp, hb0⟩ := hs
            have hb0 : len * te.size ≤ q := hb0
            have hlook := first rfl rfl
            obtain ⟨xa, c, cs, h1, h2, h3, h4, h5, h6⟩ := src ds m p hseen hp len
            have hmin : Nat.min m len ≤ len := Nat.min_le_right _ _
            have hmk : Nat.min m len * te.size ≤ len * te.size := Nat.mul_le_mul_right _ hmin
            simp only [repV] at hv
            obtain ⟨b, cap, o', g1, hx, hlm, hoo, hlc⟩ := hv
            obtain ⟨b', cc, e', g2, g3, g6⟩ := hW.blk _ _ hlook
            rw [g1] at g2; cases g2
            obtain ⟨c1, c2⟩ := cut_rep _ _ _ _ hcut _ g6
            simp only [repC] at c2
            rcases c2 with ⟨q', d', xs, ys, e1, e2, e3, e4, e5, e6⟩ | ⟨uu, us, _, _, e3, _⟩
            case inr => simp only [repV] at e3
            cases e1
            subst e6
            rw [List.append_nil] at e2
            have hsub : Nat.mul m' te.size = q := by
              have := congrArg List.length e2
              rw [List.length_take, List.length_drop, e3] at this
              omega
            by_cases hlen0 : len = 0
            · subst hlen0
              obtain ⟨i, z, dd, hi, hsz, _⟩ := hE.info
              have hmin0 : Nat.min m 0 = 0 := by simp
              have hst : (storeCells ⟨b, o', none⟩ [] 0).run P w = .ok () w := rfl
              have hrun : (Builtin.copy_ #[t, t] o.type #[a.eval x, a.eval y]).run P w = .ok (goInt 0) w := by
                rw [hx, h1]
                have hl : ∀ (x : Addr), (loadCells x 0).run P w = .ok #[] w := fun x => by simpa using run_loadCells_list (P := P) w x [] (by simp)
                cases xa <;> simp [Builtin.copy_, run_underlying ht, Builtin.lenOf, Builtin.firstCells, sizeOf, typeInfo, hi, hl, hst]
              have hd : std.over d 0 (std.take ds (std.mulNat (std.minN m 0) te.size)) = d := by
                show List.take 0 d ++ List.take (Nat.min m 0 * te.size) ds ++ List.drop (0 + (List.take (Nat.min m 0 * te.size) ds).length) d = d
                rw [hmin0]; simp
              obtain ⟨f1, f2⟩ := splice_rep _ _ _ _ hl' _ xs g6 (by rw [hd]; simp only [repC]; exact .inl ⟨q, d, xs, [], rfl, by simp, e3, e4, e5, rfl⟩)
              refine OpDid.value (run _ _ hrun) (did_put hW (row := none) (grownBy_refl w none) (fun b hb => by cases hb) ⟨b, cc, e', g1, g3, ?_⟩ hlook rfl ?_)
              · rw [e3, ← hsub, ← e2, List.append_assoc, ← List.drop_drop, List.take_append_drop, List.take_append_drop] at f2
                exact f2
              · show repV E (.d (.int .i64 ((Nat.min m 0 : Nat) : Int))) _
                rw [hmin0]; simp only [repV, repD]; rfl
            · have := hoo hlen0
              subst this
              have hrun := run_copy_k (ty := o.type) ht hE t b o' len cap xa m c cc e' cs g3 h2 h6 (by rw [h2]; simp only [Array.length_toList] at c1; omega) h5
              rw [← hx, ← h1] at hrun
              have hov := repDs_over e5 h3 h4 (o := 0) (by rw [h2]; omega)
              simp only [List.take_zero, List.nil_append, Nat.zero_add] at hov
              have hvl : (cs ++ xs.drop cs.length).length = q := by rw [List.length_append, List.length_drop]; omega
              have hdl : (std.over d 0 (std.take ds (std.mulNat (std.minN m len) te.size))).length = q := by
                show (List.take 0 d ++ List.take (Nat.min m len * te.size) ds ++ List.drop (0 + (List.take (Nat.min m len * te.size) ds).length) d).length = q
                simp only [List.take_zero, List.nil_append, Nat.zero_add, List.length_append, List.length_drop]
                omega
              obtain ⟨f1, f2⟩ := splice_rep _ _ _ _ hl' _ (cs ++ xs.drop cs.length) g6 (by simp only [repC]; exact .inl ⟨q, _, cs ++ xs.drop cs.length, [], rfl, by simp, hvl, hdl, hov, rfl⟩)
              refine OpDid.value (run _ _ hrun) (did_put hW (grownBy_setRow _ _ _) (fun b hb => by cases hb; exact g1) ⟨b, _, e', g1, setRow_heap w b cc _ e' _ g3, ?_⟩ hlook rfl ?_)
              · have : cc.toList.take o' ++ (cs ++ xs.drop cs.length) ++ cc.toList.drop (o' + (cs ++ xs.drop cs.length).length) = cc.toList.take o' ++ cs ++ cc.toList.drop (o' + cs.length) := by
                  rw [hvl, List.append_assoc, List.append_assoc, List.append_assoc]
                  congr 2
                  rw [← e2, hsub, List.drop_take, List.drop_drop, ← List.drop_drop (i := q) (j := o')]
                  have e7 : (cc.toList.drop o').drop q = ((cc.toList.drop (o' + cs.length))).drop (q - cs.length) := by rw [List.drop_drop, List.drop_drop]; congr 1; omega
                  rw [e7, List.take_append_drop]
                rw [← this]; simpa using f2
              · simp only [repV, repD]; rfl
          · cases h
        · cases h
      · split at h
        · rename_i p0 q d hcv
          split at h
          · rename_i ds m p hseen
            split at h
            · rename_i l' hl'
              cases h
              have hp : p := hs
              have hlook := first rfl rfl
              obtain ⟨xa, c, cs, h1, h2, h3, h4, h5, h6⟩ := src ds m p hseen hp len
              have hmin : Nat.min m len ≤ len := Nat.min_le_right _ _
              have hmk : Nat.min m len * te.size ≤ len * te.size := Nat.mul_le_mul_right _ hmin
              simp only [repV] at hv
              obtain ⟨b, cap, o', g1, hx, hlm, hoo, hlc⟩ := hv
              obtain ⟨b', cc, e', g2, g3, g6⟩ := hW.blk _ _ hlook
              rw [g1] at g2; cases g2
              obtain ⟨f1, f2, f3, f4, f5⟩ := coverD_rep hcv g6
              have hmm : Nat.mul m' te.size = m' * te.size := rfl
              rw [hmm] at f2
              have hlmk : len * te.size ≤ m' * te.size := Nat.mul_le_mul_right _ hlm
              obtain ⟨xs, hxs⟩ : ∃ xs, xs = (cc.toList.drop p0).take q := ⟨_, rfl⟩
              rw [← hxs] at f4
              have hxl : xs.length = q := by rw [hxs, List.length_take, List.length_drop]; omega
              by_cases hlen0 : len = 0
              · subst hlen0
                obtain ⟨i, z, dd, hi, hsz, _⟩ := hE.info
                have hmin0 : Nat.min m 0 = 0 := by simp
                have hst : (storeCells ⟨b, o', none⟩ [] 0).run P w = .ok () w := rfl
                have hrun : (Builtin.copy_ #[t, t] o.type #[a.eval x, a.eval y]).run P w = .ok (goInt 0) w := by
                  rw [hx, h1]
                  have hl : ∀ (x : Addr), (loadCells x 0).run P w = .ok #[] w := fun x => by simpa using run_loadCells_list (P := P) w x [] (by simp)
                  cases xa <;> simp [Builtin.copy_, run_underlying ht, Builtin.lenOf, Builtin.firstCells, sizeOf, typeInfo, hi, hl, hst]
                have hd : std.over d (Nat.sub s p0) (std.take ds (std.mulNat (std.minN m 0) te.size)) = d := by
                  show List.take (s - p0) d ++ List.take (Nat.min m 0 * te.size) ds ++ List.drop ((s - p0) + (List.take (Nat.min m 0 * te.size) ds).length) d = d
                  rw [hmin0]; simp
                obtain ⟨f6, f7⟩ := splice_rep _ _ _ _ hl' _ xs g6 (by rw [hd]; simp only [repC]; exact .inl ⟨q, d, xs, [], rfl, by simp, hxl, f5, f4, rfl⟩)
                refine OpDid.value (run _ _ hrun) (did_put hW (row := none) (grownBy_refl w none) (fun b hb => by cases hb) ⟨b, cc, e', g1, g3, ?_⟩ hlook rfl ?_)
                · rw [hxl, hxs, List.append_assoc, ← List.drop_drop, List.take_append_drop, List.take_append_drop] at f7
                  exact f7
                · show repV E (.d (.int .i64 ((Nat.min m 0 : Nat) : Int))) _
                  rw [hmin0]; simp only [repV, repD]; rfl
              · have := hoo hlen0
                subst this
                have hrun := run_copy_k (ty := o.type) ht hE t b o' len cap xa m c cc e' cs g3 h2 h6 (by rw [h2]; simp only [Array.length_toList] at f3; omega) h5
                rw [← hx, ← h1] at hrun
                have hov := repDs_over f4 h3 h4 (o := o' - p0) (by rw [h2]; omega)
                have hvl : (xs.take (o' - p0) ++ cs ++ xs.drop (o' - p0 + cs.length)).length = q := by simp only [List.length_append, List.length_take, List.length_drop]; omega
                have hdl : (std.over d (Nat.sub o' p0) (std.take ds (std.mulNat (std.minN m len) te.size))).length = q := by
                  show (List.take (o' - p0) d ++ List.take (Nat.min m len * te.size) ds ++ List.drop ((o' - p0) + (List.take (Nat.min m len * te.size) ds).length) d).length = q
                  simp only [List.length_append, List.length_drop, List.length_take (l := d)]
                  omega
                obtain ⟨f6, f7⟩ := splice_rep _ _ _ _ hl' _ (xs.take (o' - p0) ++ cs ++ xs.drop (o' - p0 + cs.length)) g6 (by simp only [repC]; exact .inl ⟨q, _, _, [], rfl, by rw [List.append_nil], hvl, hdl, hov, rfl⟩)
                refine OpDid.value (run _ _ hrun) (did_put hW (grownBy_setRow _ _ _) (fun b hb => by cases hb; exact g1) ⟨b, _, e', g1, setRow_heap w b cc _ e' _ g3, ?_⟩ hlook rfl ?_)
                · have h7 : cc.toList.take p0 ++ xs.take (o' - p0) = cc.toList.take o' := by
                    rw [hxs, List.take_take, Nat.min_eq_left (by omega)]
                    have := List.take_add (l := cc.toList) (i := p0) (j := o' - p0)
                    rw [← this]; congr 1; omega
                  have h8 : xs.drop (o' - p0 + cs.length) ++ cc.toList.drop (p0 + q) = cc.toList.drop (o' + cs.length) := by
                    rw [hxs, List.drop_take, List.drop_drop, show p0 + (o' - p0 + cs.length) = o' + cs.length by omega]
                    have e7 : cc.toList.drop (p0 + q) = (cc.toList.drop (o' + cs.length)).drop (q - (o' - p0 + cs.length)) := by rw [List.drop_drop]; congr 1; omega
                    rw [e7, List.take_append_drop]
                  have : cc.toList.take p0 ++ (xs.take (o' - p0) ++ cs ++ xs.drop (o' - p0 + cs.length)) ++ cc.toList.drop (p0 + (xs.take (o' - p0) ++ cs ++ xs.drop (o' - p0 + cs.length)).length) = cc.toList.take o' ++ cs ++ cc.toList.drop (o' + cs.length) := by
                    rw [hvl, ← h7, ← h8]; simp only [List.append_assoc]
                  rw [← this]; simpa using f7
                · simp only [repV, repD]; rfl
            · cases h
          · cases h
        · cases h
    · cases h
  · cases h

theorem wrapSmall {m : Nat} (h : (m : Int) ≤ 4611686018427387904) : IntKind.i64.wrap (m : Int) = m := by
  have e : (2 : Int) ^ IntKind.i64.bits = 18446744073709551616 := by decide
  have e' : (2 : Int) ^ (IntKind.i64.bits - 1) = 9223372036854775808 := by decide
  unfold IntKind.wrap
  rw [e, e', Int.emod_eq_of_lt (by omega) (by omega)]
  have : ¬ ((m : Int) ≥ 9223372036854775808) := by omega
  simp [this]

theorem run_grow0 (t t' ty e : TypeId) (i : TypeInfo) (z : Value) (k : IntKind) (k' : IntKind) (ht : P.underlying t = some (.slice e)) (ht' : P.underlying t' = some (.int k)) (hi : P.info? e = some i) (hz : i.zero = some z)
    (m : Nat) (h0 : 0 < m) (h63 : (m : Int) ≤ 4611686018427387904) (h48 : m * i.bytes ≤ 140737488355328) (hs : i.size ≠ 0) :
    (Builtin.append_ #[t, t'] ty #[.slice none 0 0, .int k' m]).run P w =
      .ok (.slice (some ⟨w.heap.size, 0, none⟩) m (grownCap w m 0 e)) (w.drew.alloc (.cells (Builtin.zeroCells z.cells m ++ Builtin.zeroCells z.cells (grownCap w m 0 e - m)) e)) := by
  have hn : m ≠ 0 := by omega
  have hw : IntKind.i64.wrap (m : Int) = m := wrapSmall h63
  have h1 : ¬ ((m : Int) < 0) := by omega
  have h2 : ¬ (281474976710656 < (m : Int) * (i.bytes : Int)) := by
    intro h
    have h3 : ((m * i.bytes : Nat) : Int) ≤ 140737488355328 := by omega
    rw [Int.natCast_mul] at h3; omega
  have h63' : ¬ (9223372036854775807 < (m : Int)) := by omega
  have h48' : ¬ (281474976710656 < Builtin.nextslicecap m 0 * i.bytes) := by rw [nextslicecap_zero h0]; omega
  have hms : ¬ (m * i.size = 0) := fun h => (Nat.mul_eq_zero.1 h).elim hn hs
  simp [Builtin.append_, run_underlying ht, run_underlying ht', sizeOf, typeInfo, zeroValue, hi, hz, Builtin.lenOf, asInt, asIntOf, hw, h1, h2, hn, hs, h63', h48', Question.forced, run_firstCells_none, newRow, grownCap]
  exact fun h => (hms h).elim

theorem op_grow0 (hW : WR w0 M E aw n w) {o : Oper} {a : Act} {t t' e : TypeId} {te : TI} {k : IntKind} {x y : Operand} (ht : P.underlying t = some (.slice e)) (ht' : P.underlying t' = some (.int k)) (hE : TIok P e te) (hz : te.size ≠ 0)
    (ho : o.op = .call ⟨.builtin .append, #[x, y], #[t, t']⟩) {v u : V} (hv : repV E v (a.eval x)) (hu : repV E u (a.eval y))
    {r : Res} (h : rGrow0 std te e n v u = some r) (hs : r.side) : OpDid P o a aw E n w r := by
  obtain ⟨i, z, dd, hi, hsz, hby, hz', hzr, _, _, _, hzs, _⟩ := hE.info
  have hzr := repC_one _ _ (hzr E)
  have run : ∀ r w', (Builtin.append_ #[t, t'] o.type #[a.eval x, a.eval y]).run P w = .ok r w' → (execOp a.eval o).run P w = .ok (.value r) w' := by
    intro r w' hr
    rw [exec_builtin ho]
    simp only [builtin, List.map_toArray, List.map_cons, List.map_nil, Sem.run_bind, hr, Result.andThen_ok, Sem.run_pure]
  unfold rGrow0 at h
  split at h
  case h_2 => cases h
  rename_i k' c
  cases h
  obtain ⟨⟨h0, h1⟩, h2⟩ := hs
  have h1 : c < ((4611686018427387905 : Nat) : Int) := h1
  have h2 : c.toNat * te.bytes ≤ 140737488355328 := h2
  simp only [repV, repD] at hv hu
  have hc : c = ((c.toNat : Nat) : Int) := by omega
  rw [hc] at hu
  rcases Nat.eq_zero_or_pos c.toNat with hm | hm
  · have hr : (Builtin.append_ #[t, t'] o.type #[.slice none 0 0, .int k' ((0 : Nat) : Int)]).run P w = .ok (.slice none 0 0) w := by
      have hw : IntKind.i64.wrap 0 = 0 := rfl
      simp [Builtin.append_, run_underlying ht, run_underlying ht', hE.sizeOf, Builtin.lenOf, asInt, asIntOf, hw, typeInfo, hi]
    rw [hm] at hu
    rw [← hv, ← hu] at hr
    exact OpDid.value (run _ _ hr) (Did.fresh hW (x := none) (κ := 0) (row := none) (fun i y h => by cases h) (fun b hb => by cases hb) (grownBy_refl w none) (fun k hk => by cases hk)
      (.inl ⟨Emb.add_new, rfl⟩) (by simp only [repV]; exact .inl ⟨Emb.add_new, hm, hv⟩))
  · have hr := run_grow0 (P := P) (w := w) t t' o.type e i z k k' ht ht' hi hz' c.toNat hm (by omega) (by rw [hby]; exact h2) (by rw [hsz]; exact hz)
    rw [← hv, ← hu] at hr
    have hge := grownCap_ge w c.toNat 0 e
    have hcm := grownCap_le_maxLen w c.toNat 0 e (by unfold maxLen; omega)
    have hsize : (Builtin.zeroCells z.cells c.toNat ++ Builtin.zeroCells z.cells (grownCap w c.toNat 0 e - c.toNat)).size = grownCap w c.toNat 0 e * te.size := by
      simp only [Array.size_append, size_zeroCells, hzs, ← Nat.add_mul]
      congr 1; omega
    have hlt : w.heap.size < (w.drew.alloc (.cells (Builtin.zeroCells z.cells c.toNat ++ Builtin.zeroCells z.cells (grownCap w c.toNat 0 e - c.toNat)) e)).heap.size := by show _ < (w.heap.push _).size; simp
    refine OpDid.value (run _ _ hr) (Did.fresh hW (x := some w.heap.size) (κ := grownCap w c.toNat 0 e * te.size) (row := none) (fun i y h => by cases h) (fun b hb => .inl (by cases hb; exact ⟨Nat.le_refl _, hlt⟩)) ?_ (fun k hk => by cases hk) (.inr ⟨w.heap.size, _, Emb.add_new, heap_alloc_new w.drew _, by rw [Emb.add_κ, hsize], ?_, ?_⟩) ?_)
    · exact ⟨rfl, rfl, rfl, by show _ ≤ (w.heap.push _).size; simp, fun k hk _ => heap_alloc_old w.drew _ k hk⟩
    · intro x hx
      simp only [Array.toList_append, List.mem_append] at hx
      rcases hx with hx | hx
      · exact zeroCells_one hzr _ x (by simpa using hx)
      · exact zeroCells_one hzr _ x (by simpa using hx)
    · trivial
    · simp only [repV]
      exact .inr ⟨_, _, Emb.add_new, rfl, hge, hcm, Emb.add_κ⟩
end
end Go.AX

namespace Go.AX
set_option autoImplicit false
set_option linter.unusedVariables false
set_option linter.unusedSimpArgs false

section
variable {P : Program} {w0 : World} {M : Nat → Prop} {E : Emb} {aw : List (Nat × Blk)} {n : Nat} {w : World}

theorem run_clear_at {t e ty : TypeId} (hu : P.underlying t = some (.slice e)) {z : Value} (hz : (zeroValue e).run P w = .ok z w) (b o len cap : Nat) (cur : Array Value) (ct : TypeId) (cs : List Value)
    (hg : w.heap[b]? = some (.cells cur ct (0, 0))) (hcs : (Builtin.zeroCells z.cells len).toList = cs) (hfit : o + cs.length ≤ cur.size) (h1 : ∀ v ∈ cs, v.oneCell' = true) :
    (Builtin.clear_ #[t] ty #[.slice (some ⟨b, o, none⟩) len cap]).run P w = .ok (.tuple #[]) (if len = 0 then w else w.setRow b (cur.toList.take o ++ cs ++ cur.toList.drop (o + cs.length)).toArray) := by
  have hst := run_storeCells_at P b o ct cs 0 cur w hg (by simpa using hfit) h1
  simp only [Nat.add_zero] at hst
  cases len with
  | zero => simp [Builtin.clear_, run_underlying hu]
  | succ len => simp [Builtin.clear_, run_underlying hu, hz, hcs, hst]

theorem op_clear (hW : WR w0 M E aw n w) {o : Oper} {a : Act} {t e : TypeId} {te : TI} {x : Operand} (ht : P.underlying t = some (.slice e)) (hE : TIok P e te) (hk0 : te.size ≠ 0)
    (ho : o.op = .call ⟨.builtin .clear, #[x], #[t]⟩) {v : V} (hv : repV E v (a.eval x)) {bs : List Blk} (hbs : blks aw (ids [v]) = some bs)
    {r : Res} (h : rClear std te v bs = some r) (hs : r.side) : OpDid P o a aw E n w r := by
  obtain ⟨z, hz, hzr, hzs⟩ := hE.zero w
  have run : ∀ r w', (Builtin.clear_ #[t] o.type #[a.eval x]).run P w = .ok r w' → (execOp a.eval o).run P w = .ok (.value r) w' := by
    intro r w' hr
    rw [exec_builtin ho]
    simp only [builtin, List.map_toArray, List.map_cons, List.map_nil, Sem.run_bind, hr, Result.andThen_ok, Sem.run_pure]
  unfold rClear at h
  split at h
  case h_2 => cases h
  rename_i zl hzl
  simp only [cond_eq_ite] at h
  split at h
  case isFalse => cases h
  rename_i hsz
  obtain ⟨hrep, hlen⟩ := plain_rep _ zl hzl _ (hzr E)
  have hzc : ∀ q, (Builtin.zeroCells z.cells q).toList = (List.replicate q z.cells.toList).flatten := by
    intro q
    have := madeCells_list (z := z.cells) rfl (by omega) q
    rw [← this]; rfl
  have hone : ∀ u ∈ z.cells.toList, u.oneCell' = true := fun u hu => repDs_one hrep hlen u hu
  have fill : ∀ (id off len : Nat) (l : List D) (b o' cap : Nat) (cc : Array Value) (e2 : TypeId), look aw id = some (.row l te.size e2) → E.ρ id = some (some b) → a.eval x = .slice (some ⟨b, o', none⟩) len cap → (len ≠ 0 → o' = off) →
      w.heap[b]? = some (.cells cc e2 (0, 0)) → cc.size = E.κ id → (∀ u ∈ cc.toList, u.oneCell' = true) → repDs E.H l cc.toList → off + len * te.size ≤ l.length →
      ∀ s, OpDid P o a aw E n w ⟨.tup [], [(id, .row (std.over l off (std.repL len zl)) te.size e2)], 0, s⟩ := by
    intro id off len l b o' cap cc e2 hlook g1 hx hoo g3 g4 g5 g6 hb0 s
    have hll := repDs_len _ _ g6
    have hcl : ((List.replicate len z.cells.toList).flatten).length = len * te.size := by
      simp [List.length_flatten, hzs]
    have hdl : ((List.replicate len zl).flatten).length = len * te.size := by
      simp [List.length_flatten, hlen, hzs]
    by_cases h0 : len = 0
    · subst h0
      have hrun : (Builtin.clear_ #[t] o.type #[a.eval x]).run P w = .ok (.tuple #[]) w := by
        rw [hx]; simp [Builtin.clear_, run_underlying ht]
      refine OpDid.value (run _ _ hrun) (did_put hW (row := none) (grownBy_refl w none) (fun b hb => by cases hb) ?_ hlook rfl (undef_rep E))
      refine .inr ⟨b, cc, g1, g3, g4, g5, ?_⟩
      have : std.over l off (std.repL 0 zl) = l := by simp [std]
      rw [this]; exact g6
    · have ho' := hoo h0
      subst ho'
      have hrun := run_clear_at (ty := o.type) ht hz b o' len cap cc e2 _ g3 (hzc len) (by rw [hcl]; simp only [Array.length_toList] at hll; omega) (by
        intro v hv
        obtain ⟨l', hl', hv'⟩ := List.mem_flatten.1 hv
        rw [List.eq_of_mem_replicate hl'] at hv'
        exact hone v hv')
      rw [← hx, if_neg h0] at hrun
      have hov := repDs_over g6 (repDs_rep hrep hlen len len (Nat.le_refl _)) (by rw [hdl, hcl]) (o := o') (by rw [hcl]; omega)
      refine OpDid.value (run _ _ hrun) (did_put hW (grownBy_setRow _ _ _) (fun b hb => by cases hb; exact g1) (.inr ⟨b, _, g1, setRow_heap w b cc _ e2 _ g3, ?_, ?_, hov⟩) hlook rfl (undef_rep E))
      · rw [← g4]
        simp only [List.size_toArray, List.length_append, List.length_take, List.length_drop, hcl, Array.length_toList] at hll ⊢
        omega
      · intro v hv
        simp only [List.mem_append] at hv
        rcases hv with (hv | hv) | hv
        · exact g5 v (List.mem_of_mem_take hv)
        · obtain ⟨l', hl', hv'⟩ := List.mem_flatten.1 hv
          rw [List.eq_of_mem_replicate hl'] at hv'
          exact hone v hv'
        · exact g5 v (List.mem_of_mem_drop hv)
  have one : ∀ {i : Nat} {b : Blk}, v.id? = some i → bs = [b] → look aw i = some b := by
    intro i b hi hb
    subst hb
    simp only [ids, hi] at hbs
    obtain ⟨b', hb', e⟩ := blks_one hbs
    cases e; exact hb'
  split at h
  · rename_i id len k l k' e2
    simp only [cond_eq_ite, Bool.and_eq_true] at h
    split at h
    · rename_i hk
      have hk1 := Nat.eq_of_beq_eq_true hk.1
      have hk2 := Nat.eq_of_beq_eq_true hk.2
      subst hk1 hk2
      cases h
      have hb0 : len * te.size ≤ l.length := hs
      have hlook := one rfl rfl
      simp only [repV] at hv
      have hbk := hW.blk _ _ hlook
      rcases hv with ⟨g1, rfl, hx⟩ | ⟨b, cap, g1, hx, hlc, hcm, hκ⟩
      · have hl0 : l = [] := by
          rcases hbk with ⟨_, h2⟩ | ⟨b', c, h2, _⟩
          · exact h2
          · rw [g1] at h2; cases h2
        subst hl0
        have hrun : (Builtin.clear_ #[t] o.type #[a.eval x]).run P w = .ok (.tuple #[]) w := by
          rw [hx]; simp [Builtin.clear_, run_underlying ht]
        refine OpDid.value (run _ _ hrun) (did_put hW (row := none) (grownBy_refl w none) (fun b hb => by cases hb) ?_ hlook rfl (undef_rep E))
        exact .inl ⟨g1, by simp [std]⟩
      · rcases hbk with ⟨g2, _⟩ | ⟨b', cc, g2, g3, g4, g5, g6⟩
        · rw [g1] at g2; cases g2
        rw [g1] at g2; cases g2
        exact fill id 0 len l b 0 cap cc e2 hlook g1 hx (fun _ => rfl) g3 g4 g5 g6 (by omega) _
    · cases h
  · rename_i id off len k l k' e2
    simp only [cond_eq_ite, Bool.and_eq_true] at h
    split at h
    · rename_i hk
      have hk1 := Nat.eq_of_beq_eq_true hk.1
      have hk2 := Nat.eq_of_beq_eq_true hk.2
      subst hk1 hk2
      cases h
      have hb0 : off + len * te.size ≤ l.length := hs
      have hlook := one rfl rfl
      simp only [repV] at hv
      have hbk := hW.blk _ _ hlook
      obtain ⟨b, cap, o', g1, hx, hlc, hoo⟩ := hv
      rcases hbk with ⟨g2, _⟩ | ⟨b', cc, g2, g3, g4, g5, g6⟩
      · rw [g1] at g2; cases g2
      rw [g1] at g2; cases g2
      exact fill id off len l b o' cap cc e2 hlook g1 hx hoo g3 g4 g5 g6 hb0 _
    · cases h
  · cases h
end
end Go.AX
