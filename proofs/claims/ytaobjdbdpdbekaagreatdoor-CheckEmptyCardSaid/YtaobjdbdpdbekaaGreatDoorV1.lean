/- Part of a small abstract machine over the kit. Conditions: none. -/
import GoSem.Core.View
import GoSem.Core.Region
import GoSem.Op.Equal
import Derived.Deep.MidRow
import Derived.Calls
import Derived.Laws.Sem
import Derived.Laws.Tables
import Derived.RangeFuncSeq
import Derived.Lib.Strings
import Derived.Lib.SmallJoins
import Derived.Laws.StructEq
import Derived.Lib.UnsafeStr
section
/- A small abstract machine over the kit's operations: values without addresses, an interpreter in continuation form. Conditions: none. -/
namespace Go.Vm

/-- Data: trees, never changed. -/
inductive D where
  | bool (b : Bool)
  | int (k : IntKind) (n : Int)
  | str (s : List UInt8)
  | list (sz : Nat) (l : List D)
  | agg (cs : List D)
  | nilp | nilm | nilf | nili
  | fn (f : Nat)
  | iptr (cs : List D) (off : Nat)
  | iface (t : Nat) (x : D)
  | imap (ks : List D) (vs : List D)
  | anyi
  deriving Inhabited, Repr

/-- Values of the machine: data; a slice that may be appended to; references. -/
inductive Val where
  | undef
  | d (x : D)
  | own (sz : Nat) (l : List D)
  | lref (t off : Nat)
  | ptr (i off : Nat)
  | map (i : Nat)
  | sl (i off len cap sz : Nat)
  | func (f : Nat) (first caps : List Val)
  | agg (cs : List Val)
  | tuple (vs : List Val)
  | yl (i : Nat)
  deriving Inhabited, Repr

inductive Ob where
  | box (cs : List Val)
  | map (es : List (D × Val))
  | dead
  | bld (t e : Nat) (bs : List UInt8)
  | itr (m : Option Nat)
  deriving Inhabited, Repr

abbrev Store := List Ob

/-- Operands. -/
inductive O where
  | t (n : Nat)
  | c (v : Val)
  | g (n : Nat)
  deriving Inhabited, Repr

/-- Instructions. -/
inductive I where
  | mv (d : Nat) (x : O)
  | tk (d s : Nat)
  | asg (d : Nat) (x : O)
  | pk (d : Nat) (c a b : O)
  | la (d : Nat) (z : List Val)
  | lb (d : Nat) (x : O) (n : Nat)
  | ha (d : Nat) (z : List Val)
  | hb (d : Nat) (x : O) (n : Nat)
  | bd (d : Nat) (z : List Val) (ps : List (Nat × Nat × O))
  | li (d : Nat) (sz : Nat) (xs : List O)
  | ll (d : Nat) (a : O) (t off n : Nat) (ag : Bool)
  | lt (d : Nat) (a : O) (t off : Nat)
  | ls (a : O) (t off : Nat) (x : O) (n : Nat)
  | hl (d : Nat) (a : O) (n : Nat) (ag : Bool)
  | ht (d : Nat) (a : O)
  | hs (a : O) (x : O) (n : Nat)
  | nc (d : Nat) (x : O)
  | bi (d : Nat) (op : BinOp) (x y : O)
  | eq (d : Nat) (neg ag : Bool) (ks : List Nat) (x y : O)
  | un (d : Nat) (op : UnOp) (x : O)
  | ci (d : Nat) (k : IntKind) (x : O)
  | cs (d : Nat) (x : O)
  | sb (d : Nat) (x : O)
  | bs (d : Nat) (x : O)
  | fa (d : Nat) (x : O) (off : Nat)
  | fd (d : Nat) (x : O) (off n : Nat) (ag : Bool)
  | ia (d : Nat) (x i : O) (sz : Nat)
  | aa (d : Nat) (x i : O) (len sz : Nat)
  | ix (d : Nat) (x i : O)
  | ss (d : Nat) (x : O) (lo hi : Option O)
  | sl (d sz : Nat) (x : O) (lo hi mx : Option O)
  | em (d : Nat) (x : O)
  | mf (d : Nat) (f : Nat) (first caps : List O)
  | cl (d : Option Nat) (f : O) (args : List O)
  | ap (d : Nat) (s : Nat) (x : O) (sz bnd : Nat)
  | ln (d : Nat) (str : Bool) (x : O)
  | ex (d : Nat) (x : O) (i : Nat)
  | mm (d : Nat)
  | lk (d : Nat) (ag : Bool) (ks : List Nat) (m k : O) (z : Val) (ok : Bool)
  | mu (ag : Bool) (ks : List Nat) (m k x : O)
  | mn (d : Nat) (lt : Bool) (x y : O)
  | nq (d : Nat) (neg : Bool) (kd : Nat) (x : O)
  | cp (d : Option Nat) (f : Nat) (args : List O)
  | x2 (d : Nat) (k : Nat) (x y : O)
  | bad (d : Option Nat)
  | nop (d : Option Nat)
  | apx (d s z i : Nat) (x : O) (sz bnd : Nat)
  | apn (d s : Nat) (x : O) (sz bnd : Nat)
  | lob (d : Nat) (sz : Nat) (xs : List O)
  | mk (d sz : Nat) (z : List Val) (n : O) (bnd : Nat)
  | clr (d : Option Nat) (x : O) (z : List Val)
  | ax (d : Nat) (x i : O) (len sz : Nat) (ag : Bool)
  | hx (d t e : Nat)
  | rg (d : Nat) (x : O)
  | nx (d : Nat) (x : O)
  deriving Inhabited, Repr

/-- A guarded instruction. -/
structure GI where
  g : Option (Nat × Bool)
  i : I
  deriving Inhabited, Repr

inductive VC where
  | skip
  | ops (l : List GI)
  | any (l : List GI) (cf : List (List Nat))
  | bad
  | seq (a b : VC)
  | cond (c : O) (a b : VC)
  | block (i : Nat) (b : VC)
  | loop (ts bs : List Nat) (b : VC)
  | rb (x : O) (ps : List Nat) (a b : VC)
  | exit (i : Nat)
  | ret
  deriving Inhabited, Repr

inductive Res where
  | t (t : Nat)
  | o (t : Nat)
  | b (t n : Nat) (ag : Bool)
  | h (t n : Nat) (ag : Bool)
  deriving Inhabited, Repr

structure VF where
  code : VC
  res : List Res
  deriving Inhabited, Repr

/-! ### Which slots and boxes -/

def elemB (i : Nat) : List Nat → Bool
  | [] => false
  | j :: l => cond (Nat.beq i j) true (elemB i l)

def I.dst : I → Option Nat
  | .mv d _ | .tk d _ | .asg d _ | .pk d _ _ _ | .la d _ | .lb d _ _ | .ha d _ | .hb d _ _ | .bd d _ _ | .li d _ _ | .ll d _ _ _ _ _ | .lt d _ _ _
  | .hl d _ _ _ | .ht d _ | .nc d _ | .bi d _ _ _ | .eq d _ _ _ _ _ | .un d _ _ | .ci d _ _ | .cs d _ | .sb d _ | .bs d _ | .fa d _ _ | .fd d _ _ _ _ | .ia d _ _ _
  | .aa d _ _ _ _ | .ix d _ _ | .ss d _ _ _ | .sl d _ _ _ _ _ | .em d _ | .mf d _ _ _ | .ap d _ _ _ _ | .ln d _ _ | .ex d _ _ | .mm d | .lk d _ _ _ _ _ _ | .mn d _ _ _ | .nq d _ _ _ | .x2 d _ _ _ | .apx d _ _ _ _ _ _ | .apn d _ _ _ _ | .lob d _ _ | .mk d _ _ _ _ | .ax d _ _ _ _ _ | .hx d _ _ | .rg d _ | .nx d _ => some d
  | .cl d _ _ | .cp d _ _ | .bad d | .nop d | .clr d _ _ => d
  | .ls .. | .hs .. | .mu .. => none

def O.slots : O → List Nat
  | .t n => [n]
  | _ => []

def oSlots : Option O → List Nat
  | some x => x.slots
  | none => []

def lSlots (l : List O) : List Nat := l.flatMap O.slots

/-- The slots that an instruction reads. -/
def I.rd : I → List Nat
  | .mv _ x | .asg _ x | .lb _ x _ | .hb _ x _ | .ll _ x _ _ _ _ | .lt _ x _ _ | .hl _ x _ _ | .ht _ x | .nc _ x | .un _ _ x | .ci _ _ x | .cs _ x | .sb _ x | .bs _ x | .fa _ x _ | .fd _ x _ _ _ | .em _ x | .ln _ _ x | .ex _ x _
  | .nq _ _ _ x => x.slots
  | .tk _ s => [s]
  | .pk _ c a b => c.slots ++ a.slots ++ b.slots
  | .la _ _ | .ha _ _ | .mm _ => []
  | .bd _ _ ps => ps.flatMap fun q => q.2.2.slots
  | .li _ _ xs => lSlots xs
  | .ls a _ _ x _ | .hs a x _ => a.slots ++ x.slots
  | .bi _ _ x y | .eq _ _ _ _ x y | .ia _ x y _ | .aa _ x y _ _ | .ix _ x y | .mn _ _ x y | .x2 _ _ x y => x.slots ++ y.slots
  | .ss _ x lo hi => x.slots ++ oSlots lo ++ oSlots hi
  | .sl _ _ x lo hi mx => x.slots ++ oSlots lo ++ oSlots hi ++ oSlots mx
  | .mf _ _ xs ws => lSlots xs ++ lSlots ws
  | .cl _ f xs => f.slots ++ lSlots xs
  | .cp _ _ xs => lSlots xs
  | .ap _ s x _ _ => s :: x.slots
  | .lk _ _ _ m k _ _ => m.slots ++ k.slots
  | .mu _ _ m k x => m.slots ++ k.slots ++ x.slots
  | .bad _ | .nop _ | .hx _ _ _ => []
  | .rg _ x | .nx _ x => x.slots
  | .apx _ s z i x _ _ => s :: z :: i :: x.slots
  | .apn _ s x _ _ => s :: x.slots
  | .lob _ _ xs => lSlots xs
  | .mk _ _ _ n _ => n.slots
  | .clr _ x _ => x.slots
  | .ax _ x i _ _ _ => x.slots ++ i.slots

/-- The slots that an instruction writes. -/
def I.hw (i : I) : List Nat := i.dst.toList ++ match i with
  | .tk _ s | .ap _ s _ _ _ | .apn _ s _ _ _ | .apx _ s _ _ _ _ _ => [s]
  | _ => []

/-- The slots that an instruction may empty. -/
def I.kl : I → List Nat
  | .asg _ x | .ls _ _ _ x _ | .hs _ x _ => x.slots
  | _ => []

def I.wr (i : I) : List Nat := i.hw ++ i.kl

/-- The boxes that an instruction looks at; those that it changes. -/
def I.brd : I → List Nat
  | .la d _ | .lb d _ _ => [d]
  | .ll _ _ t _ _ _ | .lt _ _ t _ | .ls _ t _ _ _ => [t]
  | _ => []

def I.bwr : I → List Nat
  | .la d _ | .lb d _ _ => [d]
  | .lt _ _ t _ | .ls _ t _ _ _ => [t]
  | _ => []

/-- Does it look at the store? Does it change it? -/
def I.rs : I → Bool
  | .ha .. | .hb .. | .hl .. | .ht .. | .hs .. | .mm .. | .lk .. | .mu .. | .cl .. | .ap .. | .apn .. | .lob .. | .mk .. | .clr .. | .hx .. | .rg .. | .nx .. => true
  | _ => false

def I.ws : I → Bool
  | .ha .. | .hb .. | .ht .. | .hs .. | .mm .. | .mu .. | .cl .. | .ap .. | .apn .. | .lob .. | .mk .. | .clr .. | .hx .. | .rg .. => true
  | _ => false

def GI.rd (g : GI) : List Nat := (match g.g with | some (s, _) => [s] | none => []) ++ g.i.rd

def disj (a b : List Nat) : Bool := a.all fun x => !elemB x b

/-- What two have to do with each other, whatever the state is: slots and boxes. -/
def indepH (x y : GI) : Bool :=
  disj x.i.hw (y.rd ++ y.i.hw) && disj y.i.hw (x.rd ++ x.i.hw) && disj x.i.bwr (y.i.brd ++ y.i.bwr) && disj y.i.bwr x.i.brd

/-- What hangs on the state: slots that may be emptied, the store. -/
def indepS (x y : GI) : Bool :=
  disj x.i.kl (y.rd ++ y.i.kl) && disj y.i.kl x.rd && !(x.i.ws && y.i.rs) && !(y.i.ws && x.i.rs)

/-! ### States -/

structure St where
  tm : Nat → Val
  bx : Nat → Option (List Val)
  s : Store
  deriving Inhabited

def upd {α : Type} (f : Nat → α) (k : Nat) (v : α) : Nat → α := fun j => cond (Nat.beq j k) v (f j)

def St.set (st : St) (k : Nat) (v : Val) : St := { st with tm := upd st.tm k v }
def St.setO (st : St) (k : Option Nat) (v : Val) : St := match k with | some k => st.set k v | none => st
def St.setB (st : St) (k : Nat) (v : List Val) : St := { st with bx := upd st.bx k (some v) }

/-- A copy: of a slice under construction what it holds now. -/
def snap : Val → Val
  | .own sz l => .d (.list sz l)
  | v => v

/-- A copy that leaves a nil slice one that may be appended to. -/
def snapN : Val → Val
  | .own sz [] => .own sz []
  | v => snap v

def frzC : Val → Option D
  | .d x => some x
  | .own sz l => some (.list sz l)
  | _ => none

def frzL : List Val → Option (List D)
  | [] => some []
  | v :: l => match frzC v with
    | some x => match frzL l with
      | some xs => some (x :: xs)
      | none => none
    | none => none

/-- Data, where it may be. -/
def frz : Val → Val
  | .own sz l => .d (.list sz l)
  | .agg cs => match frzL cs with
    | some ds => .d (.agg ds)
    | none => .agg (cs.map snap)
  | v => v

def toD (v : Val) : Option D := match frz v with | .d x => some x | _ => none

def D.cells : D → List D
  | .agg cs => cs
  | x => [x]

/-- Does it take one cell? -/
def oneD : D → Bool
  | .agg _ => false
  | _ => true

def isAg : Bool → D → Bool
  | true, .agg _ => true
  | false, .agg _ => false
  | b, _ => !b

def cellsOf : Val → List Val
  | .agg cs => cs
  | .d (.agg cs) => cs.map .d
  | v => [v]

def isAggV : Val → Bool
  | .agg _ | .d (.agg _) => true
  | _ => false

def byteD (b : UInt8) : D := .int .u8 b.toNat

/-- The elements of a slice. -/
def listS : Val → Option (Nat × List D)
  | .d (.list sz l) => some (sz, l)
  | .own sz l => some (sz, l)
  | _ => none

/-- A slice that may be held against nil. -/
def listN : Val → Option (Nat × List D)
  | .sl _ _ _ _ sz => some (sz, [.nilp])
  | .d (.list sz l) => some (sz, l)
  | .own sz l => some (sz, l)
  | _ => none

/-- The elements of what may be appended. -/
def listOf : Val → Option (Nat × List D)
  | .d (.list sz l) => some (sz, l)
  | .own sz l => some (sz, l)
  | .d (.str s) => some (1, s.map byteD)
  | _ => none

/-! ### References -/

def refs : Nat → Val → List Nat
  | _, .ptr i _ => [i]
  | _, .map i => [i]
  | _, .sl i _ _ _ _ => [i]
  | n + 1, .func _ a c => (a ++ c).flatMap (refs n)
  | n + 1, .agg cs => cs.flatMap (refs n)
  | n + 1, .tuple cs => cs.flatMap (refs n)
  | _, _ => []

def depth : Nat := 5

def Ob.refs : Ob → List Nat
  | .box cs => cs.flatMap (Vm.refs depth)
  | .map es => es.flatMap fun e => Vm.refs depth e.2
  | .itr m => m.toList
  | _ => []

def ren (f : Nat → Nat) : Nat → Val → Val
  | _, .ptr i o => .ptr (f i) o
  | _, .map i => .map (f i)
  | _, .sl i o l c z => .sl (f i) o l c z
  | n + 1, .func g a c => .func g (a.map (ren f n)) (c.map (ren f n))
  | n + 1, .agg cs => .agg (cs.map (ren f n))
  | n + 1, .tuple cs => .tuple (cs.map (ren f n))
  | 0, .func _ _ _ => .undef
  | 0, .agg _ => .undef
  | 0, .tuple _ => .undef
  | _, .undef => .undef
  | _, .d x => .d x
  | _, .own sz l => .own sz l
  | _, .lref _ _ => .undef
  | _, .yl _ => .undef

def Ob.ren (f : Nat → Nat) : Ob → Ob
  | .box cs => .box (cs.map (Vm.ren f depth))
  | .map es => .map (es.map fun e => (e.1, Vm.ren f depth e.2))
  | .itr m => .itr (m.map f)
  | o => o

def idxIn (i : Nat) : List Nat → Nat
  | [] => 0
  | j :: l => cond (Nat.beq i j) 0 (idxIn i l + 1)

/-- All objects that are reached, in the order in which they are met. -/
def reach (s : Store) : Nat → List Nat → List Nat → List Nat
  | 0, _, acc => acc
  | _ + 1, [], acc => acc
  | n + 1, i :: todo, acc => cond (elemB i acc) (reach s n todo acc) (reach s n (todo ++ (s.getD i .dead).refs) (acc ++ [i]))

def nodupB : List Nat → Bool
  | [] => true
  | i :: l => !elemB i l && nodupB l

/-- Is all that is reached among them? -/
def closed (s : Store) (ids : List Nat) (args : List Val) : Bool :=
  (args.flatMap (refs depth)).all (fun i => elemB i ids) && ids.all fun i => (s.getD i .dead).refs.all fun j => elemB j ids

def back (ids : List Nat) (len : Nat) (i : Nat) : Nat := match ids[i]? with | some j => j | none => len + (i - ids.length)

def merge (s : Store) : List Nat → List Ob → Store
  | _, [] => s
  | [], l => s ++ l
  | i :: ids, o :: l => merge (s.set i o) ids l

def refsOk (n : Nat) (l : List Nat) : Bool := l.all fun i => Nat.blt i n

/-- Does a value lead to none but the first 'm' objects? -/
def okR (m : Nat) : Nat → Val → Bool
  | _, .ptr i _ => Nat.blt i m
  | _, .map i => Nat.blt i m
  | _, .sl i _ _ _ _ => Nat.blt i m
  | n + 1, .func _ a c => (a ++ c).all (okR m n)
  | n + 1, .agg cs => cs.all (okR m n)
  | n + 1, .tuple cs => cs.all (okR m n)
  | 0, .func _ _ _ => false
  | 0, .agg _ => false
  | 0, .tuple _ => false
  | _, .yl i => Nat.blt i m
  | _, _ => true

def Ob.okR (m : Nat) : Ob → Bool
  | .box cs => cs.all (Vm.okR m depth)
  | .map es => es.all fun e => Vm.okR m depth e.2
  | .itr k => k.all fun i => Nat.blt i m
  | _ => true

def gc (n : Nat) (r : Val) (s : Store) : Store :=
  cond (okR n depth r && (s.take n).all (Ob.okR n)) (s.take n) s

def noL : Nat → Val → Bool
  | _, .lref _ _ => false
  | _, .undef => false
  | _, .yl _ => false
  | n + 1, .func _ a c => (a ++ c).all (noL n)
  | n + 1, .agg cs => cs.all (noL n)
  | n + 1, .tuple cs => cs.all (noL n)
  | 0, .func _ _ _ => false
  | 0, .agg _ => false
  | 0, .tuple _ => false
  | _, _ => true

/-- May a value lie in one cell? -/
def oneC : Val → Bool
  | .undef | .lref _ _ | .agg _ | .tuple _ | .d (.agg _) | .yl _ => false
  | _ => true

def cellOk (v : Val) : Bool := oneC v && noL depth v

/-! ### Equality of scalars -/

/-- Cells of told kinds (0: bool, 1: integer, 2: string) held against each other. -/
def eqK : List Nat → List D → List D → Option Bool
  | [], [], [] => some true
  | k :: ks, a :: x, b :: y => match k, a, b with
    | 0, .bool p, .bool q => (eqK ks x y).map ((p == q) && ·)
    | 1, .int i p, .int j q => cond (decide (i = j)) ((eqK ks x y).map (decide (p = q) && ·)) none
    | 2, .str p, .str q => (eqK ks x y).map (decide (p = q) && ·)
    | _, _, _ => none
  | _, _, _ => none

def bytesLess : List UInt8 → List UInt8 → Bool
  | _, [] => false
  | [], _ :: _ => true
  | a :: x, b :: y => decide (a < b) || (decide (a = b) && bytesLess x y)

/-- Operations of two on integers and strings; the Bool: is it allowed? -/
def intOp (op : BinOp) (k : IntKind) (a b : Int) : Option (Bool × D) :=
  match op with
  | .add => some (true, .int k (k.wrap (a + b)))
  | .sub => some (true, .int k (k.wrap (a - b)))
  | .mul => some (true, .int k (k.wrap (a * b)))
  | .quo => some (decide (b ≠ 0), .int k (k.wrap (a.tdiv b)))
  | .rem => some (decide (b ≠ 0), .int k (a.tmod b))
  | .and => some (true, .int k (k.wrap (BitVec.ofInt k.bits a &&& BitVec.ofInt k.bits b).toNat))
  | .or => some (true, .int k (k.wrap (BitVec.ofInt k.bits a ||| BitVec.ofInt k.bits b).toNat))
  | .xor => some (true, .int k (k.wrap (BitVec.ofInt k.bits a ^^^ BitVec.ofInt k.bits b).toNat))
  | .andNot => some (true, .int k (k.wrap (BitVec.ofInt k.bits a &&& ~~~ BitVec.ofInt k.bits b).toNat))
  | .eql => some (true, .bool (decide (a = b)))
  | .neq => some (true, .bool (!decide (a = b)))
  | .lss => some (true, .bool (decide (a < b)))
  | .leq => some (true, .bool (decide (a ≤ b)))
  | .gtr => some (true, .bool (decide (b < a)))
  | .geq => some (true, .bool (decide (b ≤ a)))
  | _ => none

def shOp (op : BinOp) (k : IntKind) (a b : Int) : Option D :=
  match op with
  | .shl => some (.int k (k.wrap (a * 2 ^ (min b.toNat k.bits))))
  | .shr => some (.int k (a.fdiv (2 ^ (min b.toNat k.bits))))
  | _ => none

def maxStr : Nat := 4611686018427387904

def strOp (op : BinOp) (a b : List UInt8) : Option (Bool × D) :=
  match op with
  | .add => some (decide (a.length + b.length ≤ maxStr), .str (a ++ b))
  | .eql => some (true, .bool (decide (a = b)))
  | .neq => some (true, .bool (!decide (a = b)))
  | .lss => some (true, .bool (bytesLess a b))
  | .leq => some (true, .bool (bytesLess a b || decide (a = b)))
  | .gtr => some (true, .bool (!(bytesLess a b || decide (a = b))))
  | .geq => some (true, .bool (!bytesLess a b))
  | _ => none

/-- The order of two texts. -/
def cmpS : List UInt8 → List UInt8 → Int
  | [], [] => 0
  | [], _ :: _ => -1
  | _ :: _, [] => 1
  | a :: ars, b :: bs => cond (decide (a < b)) (-1) (cond (decide (b < a)) 1 (cmpS ars bs))

/-- Functions without a body, of two texts. -/
def ext2 : Nat → List UInt8 → List UInt8 → Option D
  | 0, a, b => some (.int .i64 (cmpS a b))
  | _, _, _ => none

/-! ### The interpreter -/

inductive Ex where
  | normal | exit (i : Nat) | ret
  deriving Inhabited, Repr

structure Alg (R : Type) where
  fail : R
  guard : Bool → R → R
  call : Nat → List Val → Store → (Val → Store → R) → R
  fix : (St → (St → R) → R) → St → R
  both : R → R → R
  iter : Nat → (VF → R) → R

section
variable {R : Type} (A : Alg R) (gl : Nat → List D)

def ev (st : St) : O → Val
  | .t n => st.tm n
  | .c v => v
  | .g n => .d (.iptr (gl n) 0)

def natOf (x : Option D) : Option Nat := match x with | some (.int _ (.ofNat n)) => some n | _ => none

/-- A whole call: the callee gets what its arguments reach, under numbers of its own. -/
def callStep (f : Nat) (args : List Val) (s : Store) (K : Val → Store → R) : R :=
  let ids := reach s (s.length + s.length + 8) (args.flatMap (refs depth)) []
  let fw := fun i => idxIn i ids
  let bk := back ids s.length
  A.guard (refsOk s.length ids && nodupB ids && closed s ids args && args.all (noL depth)) <|
  A.call f (args.map (ren fw depth)) (ids.map fun i => (s.getD i .dead).ren fw) fun r s' =>
    A.guard (Nat.ble ids.length s'.length) <|
    K (ren bk depth r) (merge s ids (s'.map (Ob.ren bk)))

/-- 'cells' read as one value. -/
def valOf (cs : List Val) (off n : Nat) (ag : Bool) : Val :=
  cond ag (frz (.agg ((cs.drop off).take n))) (snap (cs.getD off .undef))

def putCells (cs : List Val) (off : Nat) : List Val → List Val
  | [] => cs
  | v :: l => putCells (cs.set off v) (off + 1) l

def kill (st : St) : O → St
  | .t s => match st.tm s with
    | .own _ _ => st.set s .undef
    | _ => st
  | _ => st

/-- Parts laid over cells. -/
def fillP (st : St) : List Val → List (Nat × Nat × O) → Option (List Val)
  | cs, [] => some cs
  | cs, (off, n, x) :: ps =>
    let vs := cellsOf (frz (snap (ev gl st x)))
    cond (Nat.beq vs.length n && Nat.ble (off + n) cs.length && vs.all (noL depth)) (fillP st (putCells cs off vs) ps) none

/-- An argument: a literal nil slice stays one that may be appended to. -/
def argV (st : St) (x : O) : Val := match x with
  | .c (.own sz []) => .own sz []
  | x => frz (snap (ev gl st x))

def elems (st : St) (sz : Nat) : List O → Option (List D)
  | [] => some []
  | x :: xs => match toD (ev gl st x), elems st sz xs with
    | some d, some l => cond (Nat.beq d.cells.length sz && d.cells.all oneD) (some (d :: l)) none
    | _, _ => none

def bound (st : St) (dflt : Int) : Option O → Option Int
  | none => some dflt
  | some x => match ev gl st x with
    | .d (.int _ n) => some n
    | _ => none

/-- Where a key stands. -/
def findK (ag : Bool) (ks : List Nat) (k : D) : List (D × Val) → Nat → Option (Option Nat)
  | [], _ => some none
  | e :: es, i => cond (isAg ag e.1) (match eqK ks k.cells e.1.cells with
    | some true => some (some i)
    | some false => findK ag ks k es (i + 1)
    | none => none) none

def putK (es : List (D × Val)) (k : D) (v : Val) : Option Nat → List (D × Val)
  | some j => es.set j (k, v)
  | none => es ++ [(k, v)]

/-- The bytes of a list of bytes. -/
def unbytes : List D → Option (List UInt8)
  | [] => some []
  | .int .u8 n :: l => match unbytes l with
    | some s => some (UInt8.ofNat n.toNat :: s)
    | none => none
  | _ => none

/-- The cells of what is appended, and how many elements. -/
def srcOf (st : St) (v : Val) (sz : Nat) : Option (List Val × Nat) :=
  match v with
  | .sl i off len _ sz2 => match st.s.getD i .dead with
    | .box cs =>
      let us := ((cs.drop off).take (len * sz)).map snap
      cond (Nat.beq sz2 sz && Nat.ble (off + len * sz) cs.length && us.all cellOk) (some (us, len)) none
    | _ => none
  | v => match listOf v with
    | some (sz2, l) => cond (Nat.beq sz2 sz) (some ((l.flatMap D.cells).map Val.d, l.length)) none
    | none => none

/-- 'cells', element by element. -/
def chunks (sz : Nat) : Nat → List D → List D
  | 0, _ => []
  | n + 1, l => (cond (Nat.beq sz 1) (l.headD .nilp) (.agg (l.take sz))) :: chunks sz n (l.drop sz)

/-- What may be read of a slice of an object. -/
def listX (st : St) (v : Val) : Option (Nat × List D) :=
  match v with
  | .sl i off len _ sz => match st.s.getD i .dead with
    | .box cs => cond (Nat.ble (off + len * sz) cs.length) (match frzL ((cs.drop off).take (len * sz)) with
      | some l => cond (l.all oneD) (some (sz, chunks sz len l)) none
      | none => none) none
    | _ => none
  | v => listOf v

/-- Appending. 'nw': a nil slice becomes an object. -/
def apStep (nw : Bool) (d s : Nat) (x : O) (sz bnd : Nat) (st : St) (K : St → R) : R :=
  match st.tm s with
  | .own sz1 l => cond (nw && l.isEmpty)
    (match srcOf st (ev gl st x) sz with
      | some (_, 0) => K (st.set d (.own sz []))
      | some (cs, k) => A.guard (Nat.beq sz1 sz && Nat.ble k bnd) (K ({ st with s := st.s ++ [Ob.box cs] }.set d (.sl st.s.length 0 k k sz)))
      | none => A.fail)
    (match listX st (ev gl st x) with
      | some (sz2, l2) => A.guard (Nat.beq sz1 sz && Nat.beq sz2 sz && Nat.ble (l.length + l2.length) bnd) (K ((st.set s .undef).set d (.own sz (l ++ l2))))
      | none => A.fail)
  | .sl i off len cap sz1 => match st.s.getD i .dead, srcOf st (ev gl st x) sz with
    | .box cs, some (us, k) =>
      A.guard (Nat.beq sz1 sz && Nat.ble (len + k) bnd) <| cond (Nat.ble (len + k) cap)
        (A.guard (Nat.ble (off + (len + k) * sz) cs.length) (K ({ st with s := st.s.set i (.box (putCells cs (off + len * sz) us)) }.set d (.sl i off (len + k) cap sz))))
        (A.guard (Nat.beq off 0 && Nat.ble (len * sz) cs.length) (K ({ st with s := st.s.set i .dead ++ [Ob.box (cs.take (len * sz) ++ us)] }.set d (.sl st.s.length 0 (len + k) (len + k) sz))))
    | _, _ => A.fail
  | _ => A.fail

def step (i : I) (st : St) (K : St → R) : R :=
  match i with
  | .mv d x => K (st.set d (snap (ev gl st x)))
  | .tk d s => K ((st.set s .undef).set d (st.tm s))
  | .asg d x => K ((kill st x).set d (ev gl st x))
  | .pk d c a b => match ev gl st c with
    | .d (.bool t) => cond t (K (st.set d (snap (ev gl st a)))) (K (st.set d (snap (ev gl st b))))
    | _ => A.fail
  | .la d z => match st.bx d with
    | none => K ((st.setB d z).set d (.lref d 0))
    | some _ => A.fail
  | .lb d x n => match st.bx d with
    | none =>
      let cs := cellsOf (snapN (ev gl st x))
      A.guard (Nat.beq cs.length n && cs.all (noL depth)) (K ((st.setB d cs).set d (.lref d 0)))
    | some _ => A.fail
  | .ha d z => K ({ st with s := st.s ++ [Ob.box z] }.set d (.ptr st.s.length 0))
  | .hb d x n =>
    let cs := cellsOf (snapN (ev gl st x))
    A.guard (Nat.beq cs.length n && cs.all (noL depth)) (K ({ st with s := st.s ++ [Ob.box cs] }.set d (.ptr st.s.length 0)))
  | .bd d z ps => match fillP gl st z ps with
    | some cs => K (st.set d (.agg cs))
    | none => A.fail
  | .li d sz xs => match elems gl st sz xs with
    | some l => K (st.set d (.own sz l))
    | none => A.fail
  | .ll d a t off n ag => match ev gl st a, st.bx t with
    | .lref t' off', some cs =>
      A.guard (Nat.beq t' t && Nat.beq off' off && Nat.ble (off + n) cs.length) (K (st.set d (valOf cs off n ag)))
    | _, _ => A.fail
  | .lt d a t off => match ev gl st a, st.bx t with
    | .lref t' off', some cs =>
      A.guard (Nat.beq t' t && Nat.beq off' off && Nat.blt off cs.length) (K ((st.setB t (cs.set off .undef)).set d (cs.getD off .undef)))
    | _, _ => A.fail
  | .ls a t off x n => match ev gl st a, st.bx t with
    | .lref t' off', some cs =>
      let vs := cellsOf (ev gl st x)
      A.guard (Nat.beq t' t && Nat.beq off' off && Nat.beq vs.length n && Nat.ble (off + n) cs.length && vs.all cellOk) (K ((kill st x).setB t (putCells cs off vs)))
    | _, _ => A.fail
  | .hl d a n ag => match ev gl st a with
    | .ptr i off => match st.s.getD i .dead with
      | .box cs => A.guard (Nat.ble (off + n) cs.length && (ag || Nat.beq n 1)) (K (st.set d (valOf cs off n ag)))
      | _ => A.fail
    | .d (.iptr cs off) => A.guard (Nat.ble (off + n) cs.length) (K (st.set d (.d (cond ag (.agg ((cs.drop off).take n)) (cs.getD off .nilp)))))
    | _ => A.fail
  | .ht d a => match ev gl st a with
    | .ptr i off => match st.s.getD i .dead with
      | .box cs => A.guard (Nat.blt off cs.length) (K ({ st with s := st.s.set i (.box (cs.set off .undef)) }.set d (cs.getD off .undef)))
      | _ => A.fail
    | _ => A.fail
  | .hs a x n => match ev gl st a with
    | .ptr i off => match st.s.getD i .dead with
      | .box cs =>
        let vs := cellsOf (ev gl st x)
        A.guard (Nat.beq vs.length n && Nat.ble (off + n) cs.length && vs.all cellOk) (K { kill st x with s := st.s.set i (.box (putCells cs off vs)) })
      | _ => A.fail
    | _ => A.fail
  | .nc d x => match ev gl st x with
    | .ptr i o => K (st.set d (.ptr i o))
    | .lref t o => K (st.set d (.lref t o))
    | .d (.iptr cs o) => K (st.set d (.d (.iptr cs o)))
    | .d (.fn f) => K (st.set d (.d (.fn f)))
    | .func f a c => K (st.set d (.func f a c))
    | _ => A.fail
  | .bi d op x y => match ev gl st x, ev gl st y with
    | .d (.int k a), .d (.int k' b) => match shOp op k a b with
      | some r => A.guard (decide (0 ≤ b)) (K (st.set d (.d r)))
      | none => match intOp op k a b with
        | some (ok, r) => A.guard (decide (k = k')) (A.guard ok (K (st.set d (.d r))))
        | none => A.fail
    | .d (.str a), .d (.str b) => match strOp op a b with
      | some (ok, r) => A.guard ok (K (st.set d (.d r)))
      | none => A.fail
    | _, _ => A.fail
  | .eq d neg ag ks x y => match toD (ev gl st x), toD (ev gl st y) with
    | some a, some b => A.guard (isAg ag a && isAg ag b) <| match eqK ks a.cells b.cells with
      | some r => K (st.set d (.d (.bool (cond neg (!r) r))))
      | none => A.fail
    | _, _ => A.fail
  | .un d op x => match op, ev gl st x with
    | .not, .d (.bool b) => K (st.set d (.d (.bool (!b))))
    | .neg, .d (.int k n) => K (st.set d (.d (.int k (k.wrap (0 - n)))))
    | .xor, .d (.int k n) => K (st.set d (.d (.int k (k.wrap (BitVec.ofInt k.bits (if k.signed then -1 else k.max) ^^^ BitVec.ofInt k.bits n).toNat))))
    | _, _ => A.fail
  | .ci d k x => match ev gl st x with
    | .d (.int _ n) => K (st.set d (.d (.int k (k.wrap n))))
    | _ => A.fail
  | .cs d x => match ev gl st x with
    | .d (.str s) => K (st.set d (.d (.str s)))
    | _ => A.fail
  | .sb d x => match ev gl st x with
    | .d (.str s) => K (st.set d (.d (.list 1 (s.map byteD))))
    | _ => A.fail
  | .bs d x => match listS (ev gl st x) with
    | some (_, l) => match unbytes l with
      | some s => K (st.set d (.d (.str s)))
      | none => A.fail
    | none => A.fail
  | .fa d x off => match ev gl st x with
    | .ptr i o => K (st.set d (.ptr i (o + off)))
    | .lref t o => K (st.set d (.lref t (o + off)))
    | .d (.iptr cs o) => K (st.set d (.d (.iptr cs (o + off))))
    | _ => A.fail
  | .fd d x off n ag =>
    let cs := cellsOf (ev gl st x)
    A.guard (isAggV (ev gl st x) && Nat.ble (off + n) cs.length) (K (st.set d (valOf cs off n ag)))
  | .ia d x i sz => match ev gl st i with
    | .d (.int _ n) => match ev gl st x with
      | .sl j off len _ sz' => A.guard (Nat.beq sz' sz && decide (0 ≤ n) && decide (n < len)) (K (st.set d (.ptr j (off + n.toNat * sz))))
      | v => match listS v with
        | some (sz', l) => A.guard (Nat.beq sz' sz && decide (0 ≤ n) && decide (n < l.length)) (K (st.set d (.d (.iptr (l.getD n.toNat .nilp).cells 0))))
        | none => A.fail
    | _ => A.fail
  | .aa d x i len sz => match ev gl st i with
    | .d (.int _ n) => A.guard (decide (0 ≤ n) && decide (n < len)) <| match ev gl st x with
      | .ptr j o => K (st.set d (.ptr j (o + n.toNat * sz)))
      | .lref t o => K (st.set d (.lref t (o + n.toNat * sz)))
      | .d (.iptr cs o) => K (st.set d (.d (.iptr cs (o + n.toNat * sz))))
      | _ => A.fail
    | _ => A.fail
  | .ix d x i => match ev gl st x, ev gl st i with
    | .d (.str s), .d (.int _ n) => A.guard (decide (0 ≤ n) && decide (n < s.length)) (K (st.set d (.d (byteD (s.getD n.toNat 0)))))
    | _, _ => A.fail
  | .ss d x lo hi => match ev gl st x with
    | .d (.str s) => match bound gl st 0 lo, bound gl st s.length hi with
      | some l, some h => A.guard (decide (0 ≤ l) && decide (l ≤ h) && decide (h ≤ s.length)) (K (st.set d (.d (.str ((s.drop l.toNat).take (h.toNat - l.toNat))))))
      | _, _ => A.fail
    | _ => A.fail
  | .sl d sz0 x lo hi mx => match ev gl st x with
    | .sl j off len cap sz => match bound gl st 0 lo, bound gl st len hi, bound gl st cap mx with
      | some l, some h, some m => A.guard (Nat.beq sz sz0 && decide (0 ≤ l) && decide (l ≤ h) && decide (h ≤ m) && decide (m ≤ cap)) (K (st.set d (cond (decide (l = m)) (.d (.list sz [])) (.sl j (off + l.toNat * sz) (h.toNat - l.toNat) (m.toNat - l.toNat) sz))))
      | _, _, _ => A.fail
    | v => match listS v with
    | some (sz, s) => match bound gl st 0 lo, bound gl st s.length hi, bound gl st s.length mx with
      | some l, some h, some m => A.guard (Nat.beq sz sz0 && decide (0 ≤ l) && decide (l ≤ h) && decide (h ≤ m) && decide (m ≤ s.length)) (K (st.set d (.d (.list sz ((s.drop l.toNat).take (h.toNat - l.toNat))))))
      | _, _, _ => A.fail
    | none => A.fail
  | .em d x => match ev gl st x with
    | .sl _ _ _ _ sz => K (st.set d (.own sz []))
    | v => match listS v with
      | some (sz, _) => K (st.set d (.own sz []))
      | none => A.fail
  | .mf d f first caps => match first, caps with
    | [], [] => K (st.set d (.d (.fn f)))
    | _, _ =>
      let ars := first.map fun x => frz (snap (ev gl st x))
      let cs := caps.map fun x => frz (snap (ev gl st x))
      A.guard (ars.all (noL depth) && cs.all (noL depth)) (K (st.set d (.func f ars cs)))
  | .cl d f args => match ev gl st f with
    | .d (.fn f) => callStep A f (args.map (argV gl st)) st.s fun r s' => K ({ st with s := s' }.setO d r)
    | .func f a c => callStep A f (a ++ args.map (argV gl st) ++ c) st.s fun r s' => K ({ st with s := s' }.setO d r)
    | _ => A.fail
  | .ap d s x sz bnd => apStep A gl false d s x sz bnd st K
  | .apn d s x sz bnd => apStep A gl true d s x sz bnd st K
  | .apx d s z i x sz bnd => match st.tm s, listOf (st.tm z), st.tm i, toD (ev gl st x) with
    | .own sz1 l, some (sz2, [_]), .d (.int _ n), some dx =>
      A.guard (Nat.beq sz1 sz && Nat.beq sz2 sz && decide (n = l.length) && Nat.ble (l.length + 1) bnd && Nat.beq dx.cells.length sz && dx.cells.all oneD) (K ((st.set s .undef).set d (.own sz (l ++ [dx]))))
    | _, _, _, _ => A.fail
  | .lob d sz xs =>
    let vs := xs.map fun x => cellsOf (frz (snap (ev gl st x)))
    A.guard (!xs.isEmpty && vs.all fun l => Nat.beq l.length sz && l.all cellOk) (K ({ st with s := st.s ++ [Ob.box vs.flatten] }.set d (.sl st.s.length 0 xs.length xs.length sz)))
  | .mk d sz z n bnd => match ev gl st n with
    | .d (.int _ n) => A.guard (decide (0 ≤ n) && decide (n ≤ bnd)) (K ({ st with s := st.s ++ [Ob.box (List.replicate n.toNat z).flatten] }.set d (.sl st.s.length 0 n.toNat n.toNat sz)))
    | _ => A.fail
  | .clr d x z => match ev gl st x with
    | .sl i off len _ sz => match st.s.getD i .dead with
      | .box cs => A.guard (Nat.beq z.length sz && Nat.ble (off + len * sz) cs.length) (K ({ st with s := st.s.set i (.box (putCells cs off (List.replicate len z).flatten)) }.setO d (.tuple [])))
      | _ => A.fail
    | v => match listS v with
      | some (_, []) => K (st.setO d (.tuple []))
      | _ => A.fail
  | .ax d x i len sz ag => match ev gl st i with
    | .d (.int _ n) =>
      let cs := cellsOf (ev gl st x)
      A.guard (decide (0 ≤ n) && decide (n < len) && isAggV (ev gl st x) && Nat.ble (n.toNat * sz + sz) cs.length) (K (st.set d (valOf cs (n.toNat * sz) sz ag)))
    | _ => A.fail
  | .hx d t e => K ({ st with s := st.s ++ [Ob.bld t e []] }.set d (.ptr st.s.length 0))
  | .rg d x => match ev gl st x with
    | .d .nilm => K ({ st with s := st.s ++ [Ob.itr none] }.set d (.ptr st.s.length 0))
    | .map i => A.guard (match st.s.getD i .dead with | .map _ => true | _ => false) (K ({ st with s := st.s ++ [Ob.itr (some i)] }.set d (.ptr st.s.length 0)))
    | _ => A.fail
  | .nx d x => match ev gl st x with
    | .ptr j 0 => match st.s.getD j .dead with
      | .itr none => K (st.set d (.tuple [.d (.bool false)]))
      | .itr (some i) => match st.s.getD i .dead with
        | .map [] => K (st.set d (.tuple [.d (.bool false)]))
        | _ => A.fail
      | _ => A.fail
    | _ => A.fail
  | .bad _ => A.fail
  | .nop d => K (st.setO d .undef)
  | .ln d str x => match ev gl st x with
    | .sl _ _ len _ _ => A.guard (!str) (K (st.set d (.d (.int .i64 len))))
    | .d (.str s) => A.guard str (K (st.set d (.d (.int .i64 s.length))))
    | v => match listS v with
      | some (_, l) => A.guard (!str) (K (st.set d (.d (.int .i64 l.length))))
      | none => A.fail
  | .ex d x i => match ev gl st x with
    | .tuple vs => A.guard (Nat.blt i vs.length) (K (st.set d (vs.getD i .undef)))
    | _ => A.fail
  | .mm d => K ({ st with s := st.s ++ [Ob.map []] }.set d (.map st.s.length))
  | .lk d ag ks m k z ok => match toD (ev gl st k) with
    | none => A.fail
    | some k => A.guard (isAg ag k && (eqK ks k.cells k.cells).isSome) <| match ev gl st m with
      | .d .nilm => K (st.set d (cond ok (.tuple [frz z, .d (.bool false)]) (frz z)))
      | .d (.imap kl vl) => match findK ag ks k ((kl.zip vl).map fun e => (e.1, .d e.2)) 0 with
        | some none => K (st.set d (cond ok (.tuple [frz z, .d (.bool false)]) (frz z)))
        | some (some j) => match vl[j]? with
          | some v => K (st.set d (cond ok (.tuple [.d v, .d (.bool true)]) (.d v)))
          | none => A.fail
        | none => A.fail
      | .map i => match st.s.getD i .dead with
        | .map es => match findK ag ks k es 0 with
          | some none => K (st.set d (cond ok (.tuple [frz z, .d (.bool false)]) (frz z)))
          | some (some j) => match es[j]? with
            | some e => K (st.set d (cond ok (.tuple [e.2, .d (.bool true)]) e.2))
            | none => A.fail
          | none => A.fail
        | _ => A.fail
      | _ => A.fail
  | .mu ag ks m k x => match ev gl st m, toD (ev gl st k) with
    | .map i, some k => match st.s.getD i .dead with
      | .map es => match findK ag ks k es 0 with
        | some j => A.guard (noL depth (frz (ev gl st x)) && isAg ag k && (eqK ks k.cells k.cells).isSome) (K { st with s := st.s.set i (.map (putK es k (frz (ev gl st x)) j)) })
        | none => A.fail
      | _ => A.fail
    | _, _ => A.fail
  | .mn d lt x y => match ev gl st x, ev gl st y with
    | .d (.int k a), .d (.int k' b) => A.guard (decide (k = k')) (K (st.set d (.d (.int k (cond (cond lt (decide (b < a)) (decide (a < b))) b a)))))
    | _, _ => A.fail

  | .nq d neg kd x => match kd with
    | 0 => match listN (ev gl st x) with
      | some (_, _ :: _) => K (st.set d (.d (.bool neg)))
      | some (_, []) => A.both (K (st.set d (.d (.bool neg)))) (K (st.set d (.d (.bool (!neg)))))
      | none => A.fail
    | 1 => match ev gl st x with
      | .map _ => K (st.set d (.d (.bool neg)))
      | .d .nilm => K (st.set d (.d (.bool (!neg))))
      | _ => A.fail
    | 2 => match ev gl st x with
      | .func _ _ _ | .d (.fn _) => K (st.set d (.d (.bool neg)))
      | .d .nilf => K (st.set d (.d (.bool (!neg))))
      | _ => A.fail
    | 4 => match ev gl st x with
      | .d (.iface _ _) | .d .anyi => K (st.set d (.d (.bool neg)))
      | .d .nili => K (st.set d (.d (.bool (!neg))))
      | _ => A.fail
    | 3 => match ev gl st x with
      | .ptr _ _ | .d (.iptr _ _) => K (st.set d (.d (.bool neg)))
      | .d .nilp => K (st.set d (.d (.bool (!neg))))
      | _ => A.fail
    | _ => A.fail
  | .x2 d k x y => match ev gl st x, ev gl st y with
    | .d (.str a), .d (.str b) => match ext2 k a b with
      | some r => K (st.set d (.d r))
      | none => A.fail
    | _, _ => A.fail
  | .cp d f args =>
    let vs := args.map fun x => frz (snap (ev gl st x))
    A.guard ((vs.flatMap (refs depth)).isEmpty && vs.all (noL depth)) <| A.call f vs [] fun r s' => A.guard (s'.isEmpty && (refs depth r).isEmpty) (K (st.setO d r))

def steps : List GI → St → (St → R) → R
  | [], st, K => K st
  | ⟨none, i⟩ :: l, st, K => step A gl i st fun st => steps l st K
  | ⟨some (s, want), i⟩ :: l, st, K => match st.tm s with
    | .d (.bool b) => cond (cond want b (!b)) (step A gl i st fun st => steps l st K) (steps l (st.setO i.dst (.tuple [])) K)
    | .tuple [] => steps l (st.setO i.dst (.tuple [])) K
    | _ => A.fail

/-! ### What an instruction touches, at a state -/

/-- Cells (an object, from, how many) looked at and written; slots that are emptied; are objects made? -/
structure Fp where
  r : List (Nat × Nat × Nat) := []
  w : List (Nat × Nat × Nat) := []
  k : List Nat := []
  a : Option Nat := none
  v : List (Nat × Nat × List Val) := []
  c : Option (List Nat × Store × Store) := none
  deriving Inhabited

def big : Nat := 1000000000000

/-- Slots that are emptied. -/
def killed (st : St) : O → List Nat
  | .t s => match st.tm s with
    | .own _ _ => [s]
    | _ => []
  | _ => []

def fpCall (st st' : St) (args : List Val) : Fp :=
  { a := some st.s.length, c := some (reach st.s (st.s.length + st.s.length + 8) (args.flatMap (refs depth)) [], st.s, st'.s) }

def fpSrc (v : Val) : List (Nat × Nat × Nat) := match v with
  | .sl i _ _ _ _ => [(i, 0, big)]
  | _ => []

def fpOf (i : I) (st st' : St) : Fp :=
  match i with
  | .hl _ a n _ => match ev gl st a with
    | .ptr i off => match st.s.getD i .dead with
      | .box cs => { r := [(i, off, n)], v := [(i, off, (cs.drop off).take n)] }
      | _ => {}
    | _ => {}
  | .ht _ a => match ev gl st a with
    | .ptr i off => { w := [(i, off, 1)] }
    | _ => {}
  | .hs a x n => match ev gl st a with
    | .ptr i off => { w := [(i, off, n)], k := killed st x }
    | _ => { k := killed st x }
  | .asg _ x | .ls _ _ _ x _ => { k := killed st x }
  | .lk _ _ _ m _ _ _ => match ev gl st m with
    | .map i => { r := [(i, 0, big)] }
    | _ => {}
  | .mu _ _ m _ _ => match ev gl st m with
    | .map i => { w := [(i, 0, big)] }
    | _ => {}
  | .ha .. | .hb .. | .mm .. | .mk .. | .lob .. | .hx .. => { a := some st.s.length }
  | .rg _ x => match ev gl st x with
    | .map i => { r := [(i, 0, big)], a := some st.s.length }
    | _ => { a := some st.s.length }
  | .nx _ x => match ev gl st x with
    | .ptr j _ => match st.s.getD j .dead with
      | .itr (some i) => { r := [(j, 0, big), (i, 0, big)] }
      | _ => { r := [(j, 0, big)] }
    | _ => {}
  | .clr _ x _ => match ev gl st x with
    | .sl i _ _ _ _ => { w := [(i, 0, big)] }
    | _ => {}
  | .ap _ s x _ _ | .apn _ s x _ _ => match st.tm s with
    | .sl i _ _ _ _ => { r := fpSrc (ev gl st x), w := [(i, 0, big)], a := some st.s.length }
    | _ => { r := fpSrc (ev gl st x), a := some st.s.length }
  | .cl _ f args => match ev gl st f with
    | .d (.fn _) => fpCall st st' (args.map (argV gl st))
    | .func _ a c => fpCall st st' (a ++ args.map (argV gl st) ++ c)
    | _ => {}
  | _ => {}

def cellsDisj (a b : List (Nat × Nat × Nat)) : Bool :=
  a.all fun x => b.all fun y => !Nat.beq x.1 y.1 || (!Nat.beq x.2.2 big && !Nat.beq y.2.2 big && (Nat.ble (x.2.1 + x.2.2) y.2.1 || Nat.ble (y.2.1 + y.2.2) x.2.1))

mutual
def eqD : D → D → Bool
  | .bool a, .bool b => a == b
  | .int k a, .int j b => decide (k = j) && decide (a = b)
  | .str a, .str b => decide (a = b)
  | .list z a, .list y b => Nat.beq z y && eqDs a b
  | .agg a, .agg b => eqDs a b
  | .nilp, .nilp => true
  | .nilm, .nilm => true
  | .nilf, .nilf => true
  | .nili, .nili => true
  | .fn a, .fn b => Nat.beq a b
  | .iptr a n, .iptr b m => eqDs a b && Nat.beq n m
  | .iface a x, .iface b y => Nat.beq a b && eqD x y
  | _, _ => false
def eqDs : List D → List D → Bool
  | [], [] => true
  | x :: a, y :: b => eqD x y && eqDs a b
  | _, _ => false
end

/-- Are two cells surely one? -/
def eqV : Val → Val → Bool
  | .d a, .d b => eqD a b
  | .own z a, .own y b => Nat.beq z y && eqDs a b
  | .ptr i o, .ptr j p => Nat.beq i j && Nat.beq o p
  | .map i, .map j => Nat.beq i j
  | .sl i o l c z, .sl i' o' l' c' z' => Nat.beq i i' && Nat.beq o o' && Nat.beq l l' && Nat.beq c c' && Nat.beq z z'
  | _, _ => false

def eqVs : List Val → List Val → Bool
  | [], [] => true
  | x :: a, y :: b => eqV x y && eqVs a b
  | _, _ => false

def sameAt (s : Store) (c : Nat × Nat × List Val) : Bool := match s.getD c.1 .dead with
  | .box cs => Nat.ble (c.2.1 + c.2.2.length) cs.length && eqVs c.2.2 ((cs.drop c.2.1).take c.2.2.length)
  | _ => false

/-- A call against another one's cells: it does not reach them, or leaves what was read of them as it was. -/
def callOk (f g : Fp) : Bool := match f.c with
  | none => true
  | some (ids, s0, s) => g.c.isNone && g.w.all (fun c => !elemB c.1 ids) && (g.r.all (fun c => !elemB c.1 ids) || (g.w.isEmpty && g.v.all (fun c => !elemB c.1 ids || (sameAt s0 c && sameAt s c)) && Nat.beq g.r.length 1 && Nat.beq g.v.length 1))

/-- Is all that one touches there before the other one makes an object? -/
def roomOk (f g : Fp) : Bool := match f.a with
  | none => true
  | some n => g.a.isNone && g.r.all (fun c => Nat.blt c.1 n) && g.w.all (fun c => Nat.blt c.1 n)

def fpOk (x : GI) (fx : Fp) (y : GI) (fy : Fp) : Bool :=
  disj fx.k (y.rd ++ y.i.hw) && disj fy.k (x.rd ++ x.i.hw) && cellsDisj fx.w (fy.r ++ fy.w) && cellsDisj fy.w fx.r && callOk fx fy && callOk fy fx && roomOk fx fy && roomOk fy fx

def fpG (g : GI) (st st' : St) : Fp := match g.g with
  | none => fpOf gl g.i st st'
  | some (s, want) => match st.tm s with
    | .d (.bool b) => cond (cond want b (!b)) (fpOf gl g.i st st') {}
    | _ => {}

/-- The object that an instruction makes, and how it is named. -/
def allocOf (i : I) (st : St) : Option (Ob × Nat × (Nat → Val)) :=
  match i with
  | .ha d z => some (.box z, d, fun i => .ptr i 0)
  | .hb d x n =>
    let cs := cellsOf (snapN (ev gl st x))
    cond (Nat.beq cs.length n && cs.all (noL depth)) (some (.box cs, d, fun i => .ptr i 0)) none
  | .mm d => some (.map [], d, fun i => .map i)
  | .mk d sz z n bnd => match ev gl st n with
    | .d (.int _ n) => cond (decide (0 ≤ n) && decide (n ≤ bnd)) (some (.box (List.replicate n.toNat z).flatten, d, fun i => .sl i 0 n.toNat n.toNat sz)) none
    | _ => none
  | _ => none

def isAlloc : I → Bool
  | .ha .. | .hb .. | .mm .. | .mk .. => true
  | _ => false

def allocs (l : List GI) : Nat := match l with
  | [] => 0
  | g :: l => cond (isAlloc g.i) (allocs l + 1) (allocs l)

def step1 (g : GI) (st : St) (K : St → R) : R := match g.g with
  | none => step A gl g.i st K
  | some (s, want) => match st.tm s with
    | .d (.bool b) => cond (cond want b (!b)) (step A gl g.i st K) (K (st.setO g.i.dst (.tuple [])))
    | .tuple [] => K (st.setO g.i.dst (.tuple []))
    | _ => A.fail

/-- Objects that have their place ahead. -/
def stepR (id : Nat) (g : GI) (st : St) (K : St → R) : R := cond (isAlloc g.i)
  (match g.g, allocOf gl g.i st with
    | none, some (o, d, v) => A.guard (Nat.blt id st.s.length) (K ({ st with s := st.s.set id o }.set d (v id)))
    | _, _ => A.fail)
  (step1 A gl g st K)

def fpR (id : Nat) (g : GI) (st st' : St) : Fp := cond (isAlloc g.i) { w := [(id, 0, big)] } (fpG gl g st st')

/-- Operations in the text's order, where any order may be drawn: 'cf' says which of those ahead must be looked at. -/
def stepsD : List GI → List (List Nat) → List (GI × Fp) → Nat → St → (St → R) → R
  | [], _, _, _, st, K => K st
  | g :: l, cf, acc, id, st, K =>
    stepR A gl id g st fun st' =>
    A.guard ((cf.headD []).all fun i => match acc[i]? with
      | some (x, fx) => fpOk x fx g (fpR gl id g st st')
      | none => false) <|
    stepsD l cf.tail (acc ++ [(g, fpR gl id g st st')]) (cond (isAlloc g.i) (id + 1) id) st' K

/-- Room for the objects that are made. -/
def St.room (st : St) (n : Nat) : St := { st with s := st.s ++ List.replicate n .dead }

def runAny (l : List GI) (cf : List (List Nat)) (st : St) (K : St → R) : R := stepsD A gl l cf [] st.s.length (st.room (allocs l)) K

def mkT (tm : Nat → Val) : List Nat → Nat → Val
  | [] => fun _ => .undef
  | s :: l => upd (mkT tm l) s (tm s)

def mkB (bx : Nat → Option (List Val)) : List Nat → Nat → Option (List Val)
  | [] => fun _ => none
  | s :: l => upd (mkB bx l) s (bx s)

/-- Do all addresses of local boxes that are kept lie in boxes that are kept? -/
def keeps (tm : Nat → Val) (bs : List Nat) : List Nat → Bool
  | [] => true
  | s :: l => (match tm s with | .lref t _ => elemB t bs | _ => true) && keeps tm bs l

def okB (n : Nat) (bx : Nat → Option (List Val)) (t : Nat) : Bool := match bx t with
  | some cs => cs.all (okR n depth)
  | none => true

/-- At a loop's head: only what lives is kept. -/
def forgot (n : Nat) (ts bs : List Nat) (st : St) : St :=
  ⟨mkT st.tm ts, mkB st.bx bs, cond (ts.all (fun t => okR n depth (st.tm t)) && bs.all (okB n st.bx) && (st.s.take n).all (Ob.okR n)) (st.s.take n) st.s⟩
def forget (n : Nat) (ts bs : List Nat) (st : St) (K : St → R) : R :=
  A.guard (keeps st.tm bs ts) (K (forgot n ts bs st))

def cool : Val → Val
  | .own sz l => .d (.list sz l)
  | .lref _ _ => .undef
  | v => v

/-- What a round of a range over a function sees of its function's frame. -/
def St.cool (st : St) : St := ⟨fun t => Vm.cool (st.tm t), fun _ => none, st.s⟩

def setPs (tm : Nat → Val) : List Nat → List Val → Nat → Val
  | p :: ps, v :: vs => setPs (upd tm p v) ps vs
  | _, _ => tm

def initT : List Val → Nat → Nat → Val
  | [], _ => fun _ => .tuple []
  | v :: l, n => upd (initT l (n + 1)) n v

/-! ### An iterator's code -/

/-- What a round does: the values, the store; none: it goes on; else how the loop is left. -/
abbrev Yd (R : Type) := List Val → Store → (Option Ex → Store → R) → R

def yieldY (Y : Yd R) (d : Option Nat) (args : List O) (st : St) (p : Option Ex) (K : St → Option Ex → R) : R :=
  A.guard (p.isNone && (args.map fun x => frz (snap (ev gl st x))).all (noL depth)) <|
  Y (args.map fun x => frz (snap (ev gl st x))) st.s fun p' s' => K ({ st.cool with s := s' }.setO d (.d (.bool p'.isNone))) p'

def calledV (st : St) : I → Val
  | .cl _ f _ => ev gl st f
  | _ => .undef

/-- 'yi': the object that stands for the loop. -/
def stepY (Y : Yd R) (yi : Nat) (i : I) (st : St) (p : Option Ex) (K : St → Option Ex → R) : R :=
  match calledV gl st i, i with
  | .yl j, .cl d _ args => A.guard (Nat.beq j yi) (yieldY A gl Y d args st p K)
  | _, i => step A gl i st fun st => K st p

def stepsY (Y : Yd R) (yi : Nat) : List GI → St → Option Ex → (St → Option Ex → R) → R
  | [], st, p, K => K st p
  | ⟨none, i⟩ :: l, st, p, K => stepY A gl Y yi i st p fun st p => stepsY Y yi l st p K
  | ⟨some (s, want), i⟩ :: l, st, p, K => match st.tm s with
    | .d (.bool b) => cond (cond want b (!b)) (stepY A gl Y yi i st p fun st p => stepsY Y yi l st p K) (stepsY Y yi l (st.setO i.dst (.tuple [])) p K)
    | .tuple [] => stepsY Y yi l (st.setO i.dst (.tuple [])) p K
    | _ => A.fail

def runY (Y : Yd R) (yi : Nat) : VC → St → Option Ex → (Ex → St → Option Ex → R) → R
  | .skip, st, p, K => K .normal st p
  | .ops l, st, p, K => stepsY A gl Y yi l st p (K .normal)
  | .any l cf, st, p, K => runAny A gl l cf st fun st => K .normal st p
  | .bad, _, _, _ => A.fail
  | .seq a b, st, p, K => runY Y yi a st p fun x st p => match x with
    | .normal => runY Y yi b st p K
    | x => K x st p
  | .cond c a b, st, p, K => match ev gl st c with
    | .d (.bool t) => cond t (runY Y yi a st p K) (runY Y yi b st p K)
    | _ => A.fail
  | .block i b, st, p, K => runY Y yi b st p fun x st p => match x with
    | .exit j => cond (Nat.beq j i) (K .normal st p) (K (.exit j) st p)
    | x => K x st p
  | .loop ts bs b, st, p, K => A.guard p.isNone <| forget A st.s.length ts bs st fun st0 =>
    A.fix (fun st1 rec => runY Y yi b st1 none fun x st p => match x with
      | .normal => A.guard p.isNone (forget A st1.s.length ts bs st rec)
      | x => K x st p) st0
  | .rb _ _ _ _, _, _, _ => A.fail
  | .exit i, st, p, K => K (.exit i) st p
  | .ret, st, p, K => K .ret st p

/-- A round: the assignment, then the body. -/
def roundY (ra rb : St → (Ex → St → R) → R) (ps : List Nat) (st0 : St) : Yd R := fun vs s KB =>
  A.guard (Nat.beq vs.length ps.length) <| ra { st0 with tm := setPs st0.tm ps vs, s := s } fun e st1 => match e with
    | .normal => rb st1 fun e st2 => match e with
      | .normal => KB none st2.s
      | e => KB (some e) st2.s
    | _ => A.fail

/-- The iterator's run. -/
def iterY (ra rb : St → (Ex → St → R) → R) (ps : List Nat) (g : Nat) (caps : List Val) (st : St) (K : Ex → St → R) : R :=
  A.iter g fun vf => A.guard vf.res.isEmpty <|
    runY A gl (roundY A ra rb ps st.cool) st.s.length vf.code { tm := initT (.yl st.s.length :: caps) 0, bx := fun _ => none, s := st.s ++ [.dead] } none fun e stY p => match e with
      | .exit _ => A.fail
      | _ => K (p.getD .normal) { st.cool with s := stY.s }

def run : VC → St → (Ex → St → R) → R
  | .skip, st, K => K .normal st
  | .ops l, st, K => steps A gl l st (K .normal)
  | .any l cf, st, K => runAny A gl l cf st (K .normal)
  | .bad, _, _ => A.fail
  | .seq a b, st, K => run a st fun x st => match x with
    | .normal => run b st K
    | x => K x st
  | .cond c a b, st, K => match ev gl st c with
    | .d (.bool t) => cond t (run a st K) (run b st K)
    | _ => A.fail
  | .block i b, st, K => run b st fun x st => match x with
    | .exit j => cond (Nat.beq j i) (K .normal st) (K (.exit j) st)
    | x => K x st
  | .loop ts bs b, st, K => forget A st.s.length ts bs st fun st0 =>
    A.fix (fun st1 rec => run b st1 fun x st => match x with
      | .normal => forget A st1.s.length ts bs st rec
      | x => K x st) st0
  | .rb x ps a b, st, K => match ev gl st x with
    | .func g [] caps => iterY A gl (run a) (run b) ps g caps st K
    | .d (.fn g) => iterY A gl (run a) (run b) ps g [] st K
    | _ => A.fail
  | .exit i, st, K => K (.exit i) st
  | .ret, st, K => K .ret st

def resOf (st : St) : Res → Option Val
  | .t t => some (frz (st.tm t))
  | .o t => some (st.tm t)
  | .b t n ag => match st.tm t with
    | .lref t' 0 => match st.bx t' with
      | some cs => cond (Nat.ble n cs.length) (some (valOf cs 0 n ag)) none
      | none => none
    | _ => none
  | .h t n ag => match st.tm t with
    | .ptr i off => match st.s.getD i .dead with
      | .box cs => cond (Nat.ble (off + n) cs.length) (some (valOf cs off n ag)) none
      | _ => none
    | _ => none

def resAll (st : St) : List Res → Option (List Val)
  | [] => some []
  | r :: l => match resOf st r, resAll st l with
    | some v, some vs => some (frz v :: vs)
    | _, _ => none

def resVal (st : St) : List Res → Option Val
  | [r] => resOf st r
  | l => (resAll st l).map .tuple

def runF (fn : VF) (args : List Val) (s : Store) (K : Val → Store → R) : R :=
  run A gl fn.code { tm := initT args 0, bx := fun _ => none, s } fun x st => match x with
    | .exit _ => A.fail
    | _ => match resVal st fn.res with
      | some r => A.guard (noL depth r) (K r (gc s.length r st.s))
      | none => A.fail

end

end Go.Vm
end

section
/- The translation of the kit's operations into the small machine's instructions. Conditions: none. -/
namespace Go.Vm

/-- What the author says of a function: which reads hand ownership on; which variables are objects; what lives at each loop's head. -/
structure Ann where
  take : List Nat := []
  heap : List Nat := []
  live : List (List Nat × List Nat) := []
  pure : List Nat := []
  own : Bool := false
  objs : List Nat := []
  bld : List Nat := []
  deriving Inhabited, Repr

section
variable (P : Program)

def szOf (t : Nat) : Option Nat := (P.info? t).map (·.size)
def bytesOf (t : Nat) : Option Nat := (P.info? t).map (·.bytes)
def aggOf (t : Nat) : Option Bool := match P.underlying t with
  | some (.struct _) => some true
  | some (.array _ _) => some true
  | some _ => some false
  | none => none

/-- Does the machine's cell stand for this cell in every world? -/
def cellRel : Value → Val → Bool
  | .bool a, .d (.bool b) => a == b
  | .int k n, .d (.int k' n') => decide (k = k') && decide (n = n')
  | .string s, .d (.str l) => decide (s.data.toList = l)
  | .pointer none, .d .nilp => true
  | .map none, .d .nilm => true
  | .nilFunc, .d .nilf => true
  | .nilIface, .d .nili => true
  | .slice _ 0 0, .own _ [] => true
  | .func (.func f) a c, .d (.fn g) => decide (f = g) && a.isEmpty && c.isEmpty
  | _, _ => false

def constRel : Value → Val → Bool
  | .agg vs, .agg cs => decide (vs.size = cs.length) && (vs.toList.zip cs).all fun p => cellRel p.1 p.2
  | .tuple vs, .tuple [] => vs.isEmpty
  | v, x => cellRel v x

/-- The zero cells of a type, with the sizes of the slices' elements. -/
def zerosOf : Nat → Nat → Option (List Val)
  | 0, _ => none
  | n + 1, t => match P.underlying t with
    | some .bool => some [.d (.bool false)]
    | some (.int k) => some [.d (.int k 0)]
    | some .string => some [.d (.str [])]
    | some (.slice e) => (szOf P e).map fun s => [.own s []]
    | some (.pointer _) => some [.d .nilp]
    | some (.map _ _) => some [.d .nilm]
    | some (.func _ _ _) => some [.d .nilf]
    | some (.interface _) => some [.d .nili]
    | some (.struct fs) => (fs.toList.mapM fun f => zerosOf n f.type).map List.flatten
    | some (.array k e) => (zerosOf n e).map fun z => (List.replicate k z).flatten
    | _ => none

/-- The zero cells of a type, held against the zero value that the table tells. -/
def zeros (t : Nat) : Option (List Val) := do
  let cs ← zerosOf P 20 t
  let i ← P.info? t
  let z ← i.zero
  if decide (z.cells.size = cs.length) && decide (i.size = cs.length) && (z.cells.toList.zip cs).all (fun p => cellRel p.1 p.2) then some cs else none

/-- A constant, with the type that it has there. -/
def constV0 (t : Nat) (v : Value) : Option Val :=
  match v with
  | .bool b => some (.d (.bool b))
  | .int k n => some (.d (.int k n))
  | .string s => some (.d (.str s.data.toList))
  | .pointer none => some (.d .nilp)
  | .map none => some (.d .nilm)
  | .nilFunc => some (.d .nilf)
  | .nilIface => some (.d .nili)
  | .slice _ 0 0 => match P.underlying t with
    | some (.slice e) => (szOf P e).map fun s => .own s []
    | _ => some (.own 1 [])
  | .agg _ => (zeros P t).map .agg
  | .tuple vs => if vs.isEmpty then some (.tuple []) else none
  | _ => none

def constV (t : Nat) (v : Value) : Option Val :=
  match constV0 P t v with
  | some x => if constRel v x then some x else none
  | none => none

def zvOf (ag : Bool) (zs : List Val) : Val := if ag then .agg zs else zs.getD 0 .undef

/-- The zero value of a type, as one value. -/
def zeroV (t : Nat) : Option Val :=
  match zeros P t, aggOf P t, (P.info? t).bind (·.zero) with
  | some zs, some ag, some v =>
    if constRel v (zvOf ag zs) then some (zvOf ag zs) else none
  | _, _, _ => none

def opd (t : Nat) : Operand → Option O
  | .tmp n => some (.t n)
  | .const v => (constV P t v).map .c
  | .global g => some (.g g)
  | .func f => some (.c (.d (.fn f)))

def opdO (t : Nat) : Option Operand → Option (Option O)
  | none => some none
  | some x => (opd P t x).map some

/-- The kinds of the cells of values that may be held against each other cell by cell. -/
def kindsF (k : Nat → Option (List Nat)) : List Field → Nat → Option (List Nat)
  | [], _ => some []
  | f :: fs, off => if f.name ≠ "_" ∧ f.offset = off then match k f.type with
      | some a => match kindsF k fs (off + a.length) with
        | some b => if szOf P f.type = some a.length then some (a ++ b) else none
        | none => none
      | none => none
    else none

def kinds : Nat → Nat → Option (List Nat)
  | 0, _ => none
  | n + 1, t => match P.underlying t with
    | some .bool => some [0]
    | some (.int _) => some [1]
    | some .string => some [2]
    | some (.struct fs) => if P.stoodInHeld t = false then kindsF P (kinds n) fs.toList 0 else none
    | _ => none

def isStruct (t : Nat) : Bool := match P.underlying t with
  | some (.struct _) => true
  | _ => false

/-- Where a part lies. -/
def partOf (t i : Nat) : Option (Nat × Nat) := match P.underlying t with
  | some (.struct fs) => match fs[i]? with
    | some f => (szOf P f.type).map fun s => (f.offset, s)
    | none => none
  | some (.array _ e) => (szOf P e).map fun s => (i * s, s)
  | _ => none

def partType (t i : Nat) : Nat := match P.underlying t with
  | some (.struct fs) => ((fs[i]?).map (·.type)).getD 0
  | some (.array _ e) => e
  | _ => 0

def elemOf? (t : Nat) : Option Nat := match P.underlying t with
  | some (.slice e) => some e
  | _ => none

abbrev AMap := List (Nat × Nat × Nat)

def AMap.look (m : AMap) (s : Nat) : Option (Nat × Nat) := match m with
  | [] => none
  | (k, v) :: l => cond (Nat.beq k s) (some v) (AMap.look l s)

def isZeroC : Option Operand → Bool
  | some (.const (.int _ n)) => decide (n = 0)
  | _ => false

/-- A test against nil: of which kind. -/
def nilKind : TypeDesc → Operand → Option Nat
  | .slice _, .const (.slice none 0 0) => some 0
  | .map _ _, .const (.map none) => some 1
  | .func _ _ _, .const .nilFunc => some 2
  | .pointer _, .const (.pointer none) => some 3
  | .interface _, .const .nilIface => some 4
  | _, _ => none

/-- Which function without a body is it? -/
def extK (g : Nat) : Option Nat := match P.funcs[g]? with
  | some fn => if fn.body.isNone && fn.name == "internal/bytealg.abigen_runtime_cmpstring" && fn.origin == "" then some 0 else none
  | none => none

def sameTmp : Operand → Operand → Bool
  | .tmp x, .tmp y => Nat.beq x y
  | _, _ => false

/-- An object that holds bytes under construction. -/
def bldI (d t : Nat) : Option I := match P.underlying t, (P.info? t).bind (·.zero) with
  | some (.struct fs), some (.agg ⟨[.pointer none, .slice none 0 0]⟩) => match fs.toList with
    | [_, f] => match P.underlying f.type with
      | some (.slice e) => match P.underlying e with
        | some (.int .u8) => some (.hx d t e)
        | _ => none
      | _ => none
    | _ => none
  | _, _ => none

/-- One operation. -/
def compOp (an : Ann) (m : AMap) (o : Oper) : Option I := do
  match o.op, o.dst with
  | .move x, some d =>
    if elemB d an.take then match x with
      | .tmp s => some (.tk d s)
      | _ => none
    else (opd P o.type x).map (.mv d)
  | .assign x, some d => (opd P o.type x).map (.asg d)
  | .pick c a b, some d => do some (.pk d (← opd P 0 c) (← opd P o.type a) (← opd P o.type b))
  | .alloc e, some d => do
    let z ← zeros P e
    if elemB d an.bld then bldI P d e else
    some (if elemB d an.heap then .ha d z else .la d z)
  | .box e x, some d => do
    let n ← szOf P e
    let x ← opd P e x
    some (if elemB d an.heap then .hb d x n else .lb d x n)
  | .build t ps, some d => do
    let z ← zeros P t
    let ps ← ps.toList.mapM fun (i, x) => do
      let (off, n) ← partOf P t i
      some (off, n, ← opd P (partType P t i) x)
    if (P.underlying t).any (·.isRow) then some (.bd d z ps) else none
  | .buildSlice t len ps, some d => do
    let e ← elemOf? P t
    let n ← szOf P e
    let _ ← zeros P e
    if decide (ps.toList.map (·.1) = List.range len) && decide (len * n ≤ 2 ^ 24) && decide (0 < n) then
      let xs ← ps.toList.mapM fun (_, x) => opd P e x
      some (if elemB d an.objs then .lob d n xs else .li d n xs)
    else none
  | .load t a, some d => do
    let n ← szOf P t
    let ag ← aggOf P t
    let x ← opd P 0 a
    let at_ : Option (Nat × Nat) := match a with | .tmp s => m.look s | _ => none
    if ag || decide (n = 1) then
      match elemB d an.take && !ag, at_ with
      | false, some (b, off) => some (.ll d x b off n ag)
      | false, none => some (.hl d x n ag)
      | true, some (b, off) => some (.lt d x b off)
      | true, none => some (.ht d x)
    else none
  | .store t a x, none => do
    let n ← szOf P t
    let y ← opd P 0 a
    let z ← opd P t x
    match a with
    | .tmp s => match m.look s with
      | some (b, off) => some (.ls y b off z n)
      | none => some (.hs y z n)
    | _ => none
  | .nilCheck x, some d => (opd P 0 x).map (.nc d)
  | .binOp op t x y u, some d => do
    let a ← opd P t x
    let b ← opd P u y
    match P.underlying t, op with
    | some .bool, .eql => some (.eq d false false [0] a b)
    | some .bool, .neq => some (.eq d true false [0] a b)
    | some (.struct _), .eql => if P.eqGuardType P.depth t = false then (kinds P 10 t).map fun ks => .eq d false true ks a b else none
    | some (.struct _), .neq => if P.eqGuardType P.depth t = false then (kinds P 10 t).map fun ks => .eq d true true ks a b else none
    | some (.int _), _ => some (.bi d op a b)
    | some .string, _ => some (.bi d op a b)
    | some u, .eql => (nilKind u y).map fun k => .nq d false k a
    | some u, .neq => (nilKind u y).map fun k => .nq d true k a
    | _, _ => none
  | .unOp op _ x, some d => (opd P 0 x).map (.un d op)
  | .convert src dst x, some d => do
    let a ← opd P src x
    match P.underlying src, P.underlying dst with
    | some (.int _), some (.int k) => some (.ci d k a)
    | some .string, some .string => some (.cs d a)
    | some .string, some (.slice e) => match P.underlying e with
      | some (.int .u8) => if szOf P e = some 1 then some (.sb d a) else none
      | _ => none
    | some (.slice e), some .string => match P.underlying e with
      | some (.int .u8) => if szOf P e = some 1 then some (.bs d a) else none
      | _ => none
    | _, _ => none
  | .makeFunc (.func f) first caps, some d => do
    some (.mf d f (← first.toList.mapM (opd P 0)) (← caps.toList.mapM (opd P 0)))
  | .makeMap _ none, some d => some (.mm d)
  | .slice t x lo hi mx, some d => do
    let a ← opd P t x
    match P.underlying t with
    | some .string => if mx.isNone then some (.ss d a (← opdO P 0 lo) (← opdO P 0 hi)) else none
    | some (.slice e) => do
      let n ← szOf P e
      if lo.isNone && isZeroC hi && isZeroC mx then some (.em d a)
      else if hi.isNone && mx.isSome then none
      else some (.sl d n a (← opdO P 0 lo) (← opdO P 0 hi) (← opdO P 0 mx))
    | _ => none
  | .fieldAddr t x f, some d => match P.underlying t with
    | some (.struct fs) => match fs[f]? with
      | some f => if (szOf P f.type).any (fun n => decide (0 < n)) then (opd P 0 x).map fun x => .fa d x f.offset else none
      | none => none
    | _ => none
  | .field t x f, some d => match P.underlying t with
    | some (.struct fs) => match fs[f]? with
      | some f => do
        let n ← szOf P f.type
        let ag ← aggOf P f.type
        let a ← opd P 0 x
        if ag || decide (n = 1) then some (.fd d a f.offset n ag) else none
      | none => none
    | _ => none
  | .indexAddr t x i, some d => do
    let a ← opd P t x
    let j ← opd P 0 i
    match P.underlying t with
    | some (.slice e) => do
      let n ← szOf P e
      if decide (0 < n) then some (.ia d a j n) else none
    | some (.array len e) => do
      let n ← szOf P e
      if decide (0 < n) then some (.aa d a j len n) else none
    | _ => none
  | .index t x i, some d => do
    let a ← opd P t x
    let j ← opd P 0 i
    match P.underlying t with
    | some .string => some (.ix d a j)
    | some (.array len e) => do
      let n ← szOf P e
      let ag ← aggOf P e
      if ag || decide (n = 1) then some (.ax d a j len n ag) else none
    | _ => none
  | .makeSlice t l c, some d => do
    let e ← elemOf? P t
    let z ← zeros P e
    let n ← szOf P e
    let b ← bytesOf P e
    if sameTmp l c && decide (0 < n) && decide (0 < b) then some (.mk d n z (← opd P 0 l) (1099511627776 / b)) else none
  | .lookup t x k ok, some d => do
    let a ← opd P t x
    match P.underlying t with
    | some (.map kt et) => do
      let b ← opd P kt k
      let zv ← zeroV P et
      let ks ← kinds P 10 kt
      some (.lk d (isStruct P kt) ks a b zv ok)
    | _ => none
  | .mapUpdate t x k v, none => do
    let a ← opd P t x
    match P.underlying t with
    | some (.map kt et) => do
      let ks ← kinds P 10 kt
      some (.mu (isStruct P kt) ks a (← opd P kt k) (← opd P et v))
    | _ => none
  | .range t x, some d => match P.underlying t with
    | some (.map _ _) => (opd P t x).map (.rg d)
    | _ => none
  | .next x false, some d => (opd P 0 x).map (.nx d)
  | .extract x i, some d => (opd P 0 x).map fun x => .ex d x i
  | .call c, d => match c.callee with
    | .value f => do
      let ars ← (c.args.toList.zipIdx).mapM fun (x, i) => opd P (c.argTypes.getD i 0) x
      match f with
      | .func g => match extK P g, ars, d with
        | some k, [x, y], some d => some (.x2 d k x y)
        | _, ars, d => if elemB g an.pure then some (.cp d g ars) else some (.cl d (.c (.d (.fn g))) ars)
      | _ => some (.cl d (← opd P 0 f) ars)
    | .builtin .len => match c.args.toList, c.argTypes.toList, d with
      | [x], [t], some d => match P.underlying t with
        | some .string => (opd P t x).map (.ln d true)
        | some (.slice _) => (opd P t x).map (.ln d false)
        | _ => none
      | _, _, _ => none
    | .builtin .append => match c.args.toList, c.argTypes.toList, d with
      | [.tmp s, x], [t, u], some d => do
        let e ← elemOf? P t
        let n ← szOf P e
        let b ← bytesOf P e
        let _ ← zeros P e
        let okU : Bool := match P.underlying u with
          | some (.slice _) | some .string => true
          | _ => false
        let y ← opd P u x
        if okU && decide (0 < n) && decide (0 < b) then some (if elemB d an.objs then .apn d s y n (140737488355328 / b) else .ap d s y n (140737488355328 / b)) else none
      | _, _, _ => none
    | .builtin .clear => match c.args.toList, c.argTypes.toList with
      | [x], [t] => match P.underlying t with
        | some (.slice e) => do
          let z ← zeros P e
          some (.clr d (← opd P t x) z)
        | _ => none
      | _, _ => none
    | .builtin .max => match c.args.toList, d with
      | [x, y], some d => do some (.mn d false (← opd P o.type x) (← opd P o.type y))
      | _, _ => none
    | .builtin .min => match c.args.toList, d with
      | [x, y], some d => do some (.mn d true (← opd P o.type x) (← opd P o.type y))
      | _, _ => none
    | _ => none
  | _, _ => none

/-- What an operation tells of addresses. -/
def amapOf (m : AMap) (o : Oper) : AMap := match o.op, o.dst with
  | .fieldAddr t (.tmp s) f, some d => match m.look s, partOf P t f with
    | some (b, off), some (o, _) => (d, b, off + o) :: m
    | _, _ => m
  | _, _ => m

def compGuard (ops : Array Oper) (o : Oper) : Option (Option (Nat × Bool)) := match o.guard with
  | none => some none
  | some (j, w) => match (ops[j]?).bind (·.dst) with
    | some s => some (some (s, w))
    | none => none

def dstOk (nt : Nat) (o : Oper) : Bool := match o.dst with
  | some d => Nat.blt d nt
  | none => true

/-- Is it the appending of one element of many cells: the element is laid behind the append? -/
def isApx (an : Ann) (o1 o2 o3 : Oper) : Option (Nat × I × Nat) := match o1.op, o1.dst, o2.op, o2.dst, o3.op, o3.dst with
  | .call c, some d, .indexAddr t2 (.tmp d2) (.tmp i), some e2, .store t3 (.tmp e3) x, none => match c.callee, c.args.toList, c.argTypes.toList with
    | .builtin .append, [.tmp s, .tmp z], [t, u] => do
      let e ← elemOf? P t
      let e' ← elemOf? P u
      let n ← szOf P e
      let b ← bytesOf P e
      let _ ← zeros P e
      let y ← opd P t3 x
      if decide (t2 = t) && decide (e' = e) && decide (t3 = e) && decide (d2 = d) && decide (e3 = e2) && decide (d ≠ i) && decide (e2 ≠ d) && !elemB e2 y.slots && !elemB d y.slots && !elemB e2 [s, z, i] && !elemB d an.objs && decide (1 < n) && decide (0 < b) && o1.guard.isNone && o2.guard.isNone && o3.guard.isNone then
        some (d, .apx d s z i y n (140737488355328 / b), e2)
      else none
    | _, _, _ => none
  | _, _, _, _, _, _ => none

def compOne (an : Ann) (nt : Nat) (all : Array Oper) (m : AMap) (o : Oper) : Option GI :=
  match (match compOp P an m o with | some i => some i | none => some (.bad o.dst)), compGuard all o with
  | some i, some g => if dstOk nt o && decide (i.dst = o.dst) then some ⟨g, i⟩ else none
  | _, _ => none

def compOps (an : Ann) (nt : Nat) (all : Array Oper) : AMap → List Oper → Option (List GI)
  | _, [] => some []
  | m, o1 :: o2 :: o3 :: l => match isApx P an o1 o2 o3 with
    | some (d, i, e) => if Nat.blt d nt && Nat.blt e nt then match compOps an nt all m l with
        | some is => some (⟨none, i⟩ :: ⟨none, .nop (some e)⟩ :: ⟨none, .nop none⟩ :: is)
        | none => none
      else none
    | none => match compOne P an nt all m o1, compOps an nt all (amapOf P m o1) (o2 :: o3 :: l) with
      | some g, some is => some (g :: is)
      | _, _ => none
  | m, o :: l => match compOne P an nt all m o, compOps an nt all (amapOf P m o) l with
    | some g, some is => some (g :: is)
    | _, _ => none

/-- Boxes of a function that are kept in its frame: what allocates them, but for those that are objects. -/
def boxes (an : Ann) : Code → AMap
  | .region _ ops _ => ops.toList.filterMap fun o => match o.op, o.dst with
    | .alloc _, some d | .box _ _, some d => if elemB d an.heap then none else some (d, d, 0)
    | _, _ => none
  | .seq a b => boxes an a ++ boxes an b
  | .cond _ a b => boxes an a ++ boxes an b
  | .block _ b => boxes an b
  | .loop b => boxes an b
  | _ => []

/-! ### Regions that draw their order -/

def onPath (ops : Array Oper) (i : Nat) : Nat → Nat → Bool
  | 0, _ => false
  | n + 1, j => match ops[j]? with
    | some o => o.after.toList.any fun e => Region.binds .any e && (Nat.beq e.on i || onPath ops i n e.on)
    | none => false

def backEdges (ops : Array Oper) : Bool := (List.range ops.size).all fun j => match ops[j]? with
  | some o => o.after.toList.all fun e => !Region.binds .any e || Nat.blt e.on j
  | none => true

def twoWays : I → Bool
  | .nq _ _ k _ => Nat.beq k 0
  | _ => false

def isApI : I → Bool
  | .apx .. => true
  | _ => false

/-- Where the region's tail begins: a multi-cell append. -/
def tailAt (is : List GI) : Option Nat := is.findIdx? fun g => isApI g.i

/-- An operation that only moves an address on, or stores. -/
def postOk (e : Nat) (bar : List Nat) (o : Oper) (g : GI) : Bool := o.guard.isNone && !elemB e g.rd && (match o.dst with | some d => !elemB d bar | none => true) && (match o.op with
  | .fieldAddr _ (.tmp _) _ => true
  | .store _ (.tmp _) _ => true
  | _ => false)

def tailOk (ops : Array Oper) (is : List GI) (k : Nat) : Bool := match is[k]? with
  | some ⟨_, .apx d s z i x _ _⟩ => match is[k + 1]? with
    | some ⟨_, .nop (some e)⟩ =>
      ((List.range k).all fun j => onPath ops j ops.size k) &&
      ((List.range ops.size).all fun j => Nat.ble j k || onPath ops k ops.size j) && onPath ops (k + 1) ops.size (k + 2) &&
      ((List.range ops.size).all fun j => Nat.blt j (k + 3) || (match ops[j]?, is[j]? with
        | some o, some g => postOk e (e :: d :: s :: z :: i :: x.slots) o g
        | _, _ => false))
    | _ => false
  | _ => false

def inTail (t : Option Nat) (i j : Nat) : Bool := match t with
  | some k => (Nat.beq i (k + 1) || Nat.beq i (k + 2)) && Nat.blt (k + 2) j
  | none => false

/-- May the two change places: always (some false), if the state says so (some true), or never? -/
def pairQ (ops : Array Oper) (is : List GI) (i j : Nat) : Option Bool := match is[i]?, is[j]? with
  | some x, some y => if onPath ops i ops.size j || inTail (tailAt is) i j then some false else if indepH x y then some (!indepS x y) else none
  | _, _ => none

/-- Those ahead of 'j' that must be looked at. -/
def cfOf (ops : Array Oper) (is : List GI) (j : Nat) : Nat → Option (List Nat)
  | 0 => some []
  | i + 1 => match cfOf ops is j i, pairQ ops is i j with
    | some l, some b => some (cond b (i :: l) l)
    | _, _ => none

def cfAll (ops : Array Oper) (is : List GI) : Nat → Option (List (List Nat))
  | 0 => some []
  | j + 1 => match cfAll ops is j, cfOf ops is j j with
    | some l, some c => some (l ++ [c])
    | _, _ => none

def anyCf (ops : Array Oper) (is : List GI) : Option (List (List Nat)) :=
  if P.follows .mixedOrders && backEdges ops && is.all (fun g => !twoWays g.i) && (match tailAt is with | some k => tailOk ops is k | none => true) then cfAll ops is ops.size else none

/-- Code without loops, drawn orders and ranges over functions. -/
def plainV : VC → Bool
  | .skip | .ops _ | .exit _ | .ret | .bad => true
  | .seq a b => plainV a && plainV b
  | .cond _ a b => plainV a && plainV b
  | .block _ b => plainV b
  | _ => false

/-- The code; what is left of the words on loops is handed on. -/
def compC (an : Ann) (nt : Nat) (m : AMap) : Code → List (List Nat × List Nat) → Option (VC × List (List Nat × List Nat))
  | .skip, l => some (.skip, l)
  | .region _ ops drawn, l => match compOps P an nt ops m ops.toList with
    | some is => if drawn then (match anyCf P ops is with | some cf => some (.any is cf, l) | none => some (.bad, l)) else some (.ops is, l)
    | none => none
  | .seq a b, l => match compC an nt m a l with
    | some (x, l) => match compC an nt m b l with
      | some (y, l) => some (.seq x y, l)
      | none => none
    | none => none
  | .cond c a b, l => match opd P 0 c, compC an nt m a l with
    | some o, some (x, l) => match compC an nt m b l with
      | some (y, l) => some (.cond o x y, l)
      | none => none
    | _, _ => none
  | .block i b, l => match compC an nt m b l with
    | some (x, l) => some (.block i x, l)
    | none => none
  | .loop b, (ts, bs) :: l => match compC an nt m b l with
    | some (x, l) => some (.loop ts bs x, l)
    | none => none
  | .rangeFunc f ps a b, l => match opd P 0 f, compC an nt m a l, compC an nt m b l with
    | some x, some (va, _), some (vb, _) => if plainV va && plainV vb && ps.toList.all (fun p => Nat.blt p nt) then some (.rb x ps.toList va vb, l) else none
    | _, _, _ => none
  | .exit i, l => some (.exit i, l)
  | .ret, l => some (.ret, l)
  | .refuse _, l => some (.bad, l)
  | _, _ => none

def compRes (an : Ann) : ResultVar → Option Res
  | .tmp t => some (.t t)
  | .cell t ty => do
    let n ← szOf P ty
    let ag ← aggOf P ty
    if ag || decide (n = 1) then some (if elemB t an.heap then .h t n ag else .b t n ag) else none

def compRs (an : Ann) (l : List ResultVar) : Option (List Res) := match an.own, l with
  | true, [.tmp t] => some [.o t]
  | true, _ => none
  | false, l => l.mapM (compRes P an)

def compF (an : Ann) (fn : Func) : Option VF := do
  let c ← fn.body
  let (x, _) ← compC P an fn.ntmps (boxes an c) c an.live
  let r ← compRs P an fn.results.toList
  some ⟨x, r⟩

end

end Go.Vm
end

section
/- How the machine's values read in the kit's worlds. Conditions: none. -/
namespace Go.Vm

inductive All2 {α β : Type} (R : α → β → Prop) : List α → List β → Prop
  | nil : All2 R [] []
  | cons {x : α} {y : β} {xs : List α} {ys : List β} : R x y → All2 R xs ys → All2 R (x :: xs) (y :: ys)

/-- Who may write to a block. -/
inductive Loc where
  | slot (t : Nat) | bcell (t j : Nat) | bbox (t : Nat) | ocell (i j : Nat) | obj (i : Nat) | res | foreign
  deriving DecidableEq

/-- A ghost: a block's owner, and up to where it is never written any more; none: it is never written at all. -/
abbrev Gh := Nat → Option (Loc × Nat)

def Fz (G : Gh) (b off : Nat) : Prop := ∀ L n, G b = some (L, n) → off < n

def Cell (w : World) (G : Gh) (b off : Nat) (v : Value) : Prop := w.cell? ⟨b, off, none⟩ = some v ∧ Fz G b off ∧ v.oneCell' = true

def CellsAt (w : World) (G : Gh) (b off : Nat) (vs : List Value) : Prop := ∀ j v, vs[j]? = some v → Cell w G b (off + j) v

/-- A map that is never written any more. -/
def MapAt (w : World) (G : Gh) (b : Nat) (ks vs : List Value) : Prop :=
  G b = none ∧ ∃ mes clock, w.heap[b]? = some (.map mes clock) ∧ mes.toList.map (·.key) = ks ∧ mes.toList.map (·.val) = vs

/-- A block of so many cells, or more. -/
def Sz (w : World) (b n : Nat) : Prop := ∃ (c : Array Value) (E : TypeId) (fz : Nat × Nat), w.heap[b]? = some (.cells c E fz) ∧ n ≤ c.size

def Keeps (w : World) (G : Gh) (w' : World) (G' : Gh) : Prop := (∀ b off v, Cell w G b off v → Cell w' G' b off v) ∧ (∀ b ks vs, MapAt w G b ks vs → MapAt w' G' b ks vs) ∧ ∀ b n, Sz w b n → Sz w' b n

abbrev zipE (ks vs : List D) : List (D × Val) := (ks.zip vs).map fun e => (e.1, .d e.2)

/-- Two lists of entries that are looked up alike. -/
def SameMap (kl vl ks vs : List D) : Prop := ∀ (ag : Bool) (kk : List Nat) (k : D),
  (findK ag kk k (zipE ks vs) 0 = some none → findK ag kk k (zipE kl vl) 0 = some none) ∧
  ∀ j d, findK ag kk k (zipE ks vs) 0 = some (some j) → vs[j]? = some d → ∃ j', findK ag kk k (zipE kl vl) 0 = some (some j') ∧ vl[j']? = some d

mutual
inductive Rd (w : World) (G : Gh) : Value → D → Prop
  | bool (b : Bool) : Rd w G (.bool b) (.bool b)
  | int (k : IntKind) (n : Int) : Rd w G (.int k n) (.int k n)
  | str (s : ByteArray) (l : List UInt8) : s.data.toList = l → Rd w G (.string s) (.str l)
  | nilp : Rd w G (.pointer none) .nilp
  | nilm : Rd w G (.map none) .nilm
  | nilf : Rd w G .nilFunc .nilf
  | nili : Rd w G .nilIface .nili
  | fn (f : Nat) : Rd w G (.func (.func f) #[] #[]) (.fn f)
  | iface (t : Nat) (v : Value) (x : D) : Rd w G v x → Rd w G (.iface t v) (.iface t x)
  | anyi (t : Nat) (v : Value) : Rd w G (.iface t v) .anyi
  | imap (b : Nat) (kv vv : List Value) (kl vl ks vs : List D) : MapAt w G b kv vv → RdL w G kv kl → RdL w G vv vl → SameMap kl vl ks vs → Rd w G (.map (some b)) (.imap ks vs)
  | agg (vs : List Value) (cs : List D) : RdL w G vs cs → Rd w G (.agg ⟨vs⟩) (.agg cs)
  | list0 (a : Option Addr) (cap sz : Nat) : Rd w G (.slice a 0 cap) (.list sz [])
  | list (b off n cap sz : Nat) (l : List D) (vs : List Value) : n = l.length → n ≤ cap → (∀ d, d ∈ l → d.cells.length = sz) → CellsAt w G b off vs → RdL w G vs (l.flatMap D.cells) →
      Rd w G (.slice (some ⟨b, off, none⟩) n cap) (.list sz l)
  | iptr (b base off : Nat) (vs : List Value) (cs : List D) : CellsAt w G b base vs → RdL w G vs cs → Rd w G (.pointer (some ⟨b, base + off, none⟩)) (.iptr cs off)
inductive RdL (w : World) (G : Gh) : List Value → List D → Prop
  | nil : RdL w G [] []
  | cons (v : Value) (x : D) (vs : List Value) (xs : List D) : Rd w G v x → RdL w G vs xs → RdL w G (v :: vs) (x :: xs)
end

section
variable {w w' : World} {G G' : Gh}

theorem CellsAt.keep (hk : Keeps w G w' G') {b off : Nat} {vs : List Value} (h : CellsAt w G b off vs) : CellsAt w' G' b off vs :=
  fun j v hv => hk.1 _ _ _ (h j v hv)

mutual
theorem Rd.keep (hk : Keeps w G w' G') : ∀ {v : Value} {x : D}, Rd w G v x → Rd w' G' v x
  | _, _, .bool b => .bool b
  | _, _, .int k n => .int k n
  | _, _, .str s l h => .str s l h
  | _, _, .nilp => .nilp
  | _, _, .nilm => .nilm
  | _, _, .nilf => .nilf
  | _, _, .nili => .nili
  | _, _, .fn f => .fn f
  | _, _, .iface t v x h => .iface t v x (Rd.keep hk h)
  | _, _, .anyi t v => .anyi t v
  | _, _, .imap b kv vv kl vl ks vs h1 h2 h3 h4 => .imap b kv vv kl vl ks vs (hk.2.1 _ _ _ h1) (RdL.keep hk h2) (RdL.keep hk h3) h4
  | _, _, .agg vs cs h => .agg vs cs (RdL.keep hk h)
  | _, _, .list0 a cap sz => .list0 a cap sz
  | _, _, .list b off n cap sz l vs h1 h2 h3 h4 h5 => .list b off n cap sz l vs h1 h2 h3 (h4.keep hk) (RdL.keep hk h5)
  | _, _, .iptr b base off vs cs h1 h2 => .iptr b base off vs cs (h1.keep hk) (RdL.keep hk h2)
theorem RdL.keep (hk : Keeps w G w' G') : ∀ {vs : List Value} {xs : List D}, RdL w G vs xs → RdL w' G' vs xs
  | _, _, .nil => .nil
  | _, _, .cons v x vs xs h1 h2 => .cons v x vs xs (Rd.keep hk h1) (RdL.keep hk h2)
end

theorem RdL.length {vs : List Value} {xs : List D} (h : RdL w G vs xs) : vs.length = xs.length := by
  induction vs generalizing xs with
  | nil => cases h; rfl
  | cons v vs ih => cases h with | cons _ _ _ _ _ h2 => simp [ih h2]

theorem RdL.get {vs : List Value} {xs : List D} (h : RdL w G vs xs) : ∀ {j : Nat} {v : Value} {x : D}, vs[j]? = some v → xs[j]? = some x → Rd w G v x := by
  induction vs generalizing xs with
  | nil => intro j v x hv; simp at hv
  | cons a vs ih =>
    cases h with
    | cons _ y _ ys h1 h2 =>
      intro j v x hv hx
      cases j with
      | zero => simp at hv hx; subst hv; subst hx; exact h1
      | succ j => simp at hv hx; exact ih h2 hv hx

theorem RdL.mk : ∀ {vs : List Value} {xs : List D}, vs.length = xs.length → (∀ (j : Nat) (v : Value) (x : D), vs[j]? = some v → xs[j]? = some x → Rd w G v x) → RdL w G vs xs
  | [], [], _, _ => .nil
  | [], _ :: _, h, _ => by simp at h
  | _ :: _, [], h, _ => by simp at h
  | v :: vs, x :: xs, h, hr => .cons v x vs xs (hr 0 v x rfl rfl) (RdL.mk (by simpa using h) fun j u y hu hy => hr (j + 1) u y (by simpa using hu) (by simpa using hy))

theorem RdL.append {vs us : List Value} {xs ys : List D} (h : RdL w G vs xs) (h2 : RdL w G us ys) : RdL w G (vs ++ us) (xs ++ ys) := by
  induction vs generalizing xs with
  | nil => cases h; simpa using h2
  | cons v vs ih => cases h with | cons _ _ _ _ a b => exact .cons _ _ _ _ a (ih b)

theorem RdL.drop {vs : List Value} {xs : List D} (h : RdL w G vs xs) (n : Nat) : RdL w G (vs.drop n) (xs.drop n) :=
  .mk (by simp [h.length]) fun j v x hv hx => h.get (by simpa using hv) (by simpa using hx)

theorem RdL.take {vs : List Value} {xs : List D} (h : RdL w G vs xs) (n : Nat) : RdL w G (vs.take n) (xs.take n) :=
  .mk (by simp [h.length]) fun j v x hv hx => by
    rw [List.getElem?_take] at hv hx
    split at hv
    · rename_i hj; simp only [hj, if_true] at hx; exact h.get hv hx
    · simp at hv
end

mutual
inductive RelA (w : World) (G : Gh) (ρ : List Nat) : Value → Val → Prop
  | undef (v : Value) : RelA w G ρ v .undef
  | d (v : Value) (x : D) : Rd w G v x → RelA w G ρ v (.d x)
  | nil (a : Option Addr) (sz : Nat) : RelA w G ρ (.slice a 0 0) (.own sz [])
  | ptr (i off b : Nat) : ρ[i]? = some (b + 1) → RelA w G ρ (.pointer (some ⟨b, off, none⟩)) (.ptr i off)
  | map (i b : Nat) : ρ[i]? = some (b + 1) → RelA w G ρ (.map (some b)) (.map i)
  | sl (i off len cap cap' sz b : Nat) : ρ[i]? = some (b + 1) → cap ≤ cap' → Sz w b (off + cap' * sz) → RelA w G ρ (.slice (some ⟨b, off, none⟩) len cap') (.sl i off len cap sz)
  | func (f : Nat) (ars cs : List Value) (a c : List Val) : RelL w G ρ ars a → RelL w G ρ cs c → RelA w G ρ (.func (.func f) ⟨ars⟩ ⟨cs⟩) (.func f a c)
  | agg (vs : List Value) (cs : List Val) : RelL w G ρ vs cs → RelA w G ρ (.agg ⟨vs⟩) (.agg cs)
  | tuple (vs : List Value) (cs : List Val) : RelL w G ρ vs cs → RelA w G ρ (.tuple ⟨vs⟩) (.tuple cs)
  | yl (i l : Nat) : ρ[i]? = some (l + 1) → RelA w G ρ (.func (.yield l) #[] #[]) (.yl i)
inductive RelL (w : World) (G : Gh) (ρ : List Nat) : List Value → List Val → Prop
  | nil : RelL w G ρ [] []
  | cons (v : Value) (x : Val) (vs : List Value) (xs : List Val) : RelA w G ρ v x → RelL w G ρ vs xs → RelL w G ρ (v :: vs) (x :: xs)
end

section
variable {w w' : World} {G G' : Gh} {ρ ρ' : List Nat}

mutual
theorem RelA.keep (hk : Keeps w G w' G') (hρ : ∀ i b : Nat, ρ[i]? = some (b + 1) → ρ'[i]? = some (b + 1)) : ∀ {v : Value} {x : Val}, RelA w G ρ v x → RelA w' G' ρ' v x
  | _, _, .undef v => .undef v
  | _, _, .d v x h => .d v x (h.keep hk)
  | _, _, .nil a sz => .nil a sz
  | _, _, .ptr i off b h => .ptr i off b (hρ _ _ h)
  | _, _, .map i b h => .map i b (hρ _ _ h)
  | _, _, .sl i off len cap cap' sz b h hc hz => .sl i off len cap cap' sz b (hρ _ _ h) hc (hk.2.2 _ _ hz)
  | _, _, .func f ars cs a c h1 h2 => .func f ars cs a c (RelL.keep hk hρ h1) (RelL.keep hk hρ h2)
  | _, _, .agg vs cs h => .agg vs cs (RelL.keep hk hρ h)
  | _, _, .tuple vs cs h => .tuple vs cs (RelL.keep hk hρ h)
  | _, _, .yl i l h => .yl i l (hρ _ _ h)
theorem RelL.keep (hk : Keeps w G w' G') (hρ : ∀ i b : Nat, ρ[i]? = some (b + 1) → ρ'[i]? = some (b + 1)) : ∀ {vs : List Value} {xs : List Val}, RelL w G ρ vs xs → RelL w' G' ρ' vs xs
  | _, _, .nil => .nil
  | _, _, .cons v x vs xs h1 h2 => .cons v x vs xs (RelA.keep hk hρ h1) (RelL.keep hk hρ h2)
end

theorem RelL.length {vs : List Value} {xs : List Val} (h : RelL w G ρ vs xs) : vs.length = xs.length := by
  induction vs generalizing xs with
  | nil => cases h; rfl
  | cons v vs ih => cases h with | cons _ _ _ _ _ h2 => simp [ih h2]

theorem RelL.get {vs : List Value} {xs : List Val} (h : RelL w G ρ vs xs) : ∀ {j : Nat} {v : Value} {x : Val}, vs[j]? = some v → xs[j]? = some x → RelA w G ρ v x := by
  induction vs generalizing xs with
  | nil => intro j v x hv; simp at hv
  | cons a vs ih =>
    cases h with
    | cons _ y _ ys h1 h2 =>
      intro j v x hv hx
      cases j with
      | zero => simp at hv hx; subst hv; subst hx; exact h1
      | succ j => simp at hv hx; exact ih h2 hv hx

theorem RelL.mk : ∀ {vs : List Value} {xs : List Val}, vs.length = xs.length → (∀ (j : Nat) (v : Value) (x : Val), vs[j]? = some v → xs[j]? = some x → RelA w G ρ v x) → RelL w G ρ vs xs
  | [], [], _, _ => .nil
  | [], _ :: _, h, _ => by simp at h
  | _ :: _, [], h, _ => by simp at h
  | v :: vs, x :: xs, h, hr => .cons v x vs xs (hr 0 v x rfl rfl) (RelL.mk (by simpa using h) fun j u y hu hy => hr (j + 1) u y (by simpa using hu) (by simpa using hy))

theorem RelL.append {vs us : List Value} {xs ys : List Val} (h : RelL w G ρ vs xs) (h2 : RelL w G ρ us ys) : RelL w G ρ (vs ++ us) (xs ++ ys) := by
  induction vs generalizing xs with
  | nil => cases h; simpa using h2
  | cons v vs ih => cases h with | cons _ _ _ _ a b => exact .cons _ _ _ _ a (ih b)

theorem RelL.drop {vs : List Value} {xs : List Val} (h : RelL w G ρ vs xs) (n : Nat) : RelL w G ρ (vs.drop n) (xs.drop n) :=
  .mk (by simp [h.length]) fun j v x hv hx => h.get (by simpa using hv) (by simpa using hx)

theorem RelL.take {vs : List Value} {xs : List Val} (h : RelL w G ρ vs xs) (n : Nat) : RelL w G ρ (vs.take n) (xs.take n) :=
  .mk (by simp [h.length]) fun j v x hv hx => by
    rw [List.getElem?_take] at hv hx
    split at hv
    · rename_i hj; simp only [hj, if_true] at hx; exact h.get hv hx
    · simp at hv

theorem RdL.toRelL {vs : List Value} {xs : List D} (h : RdL w G vs xs) : RelL w G ρ vs (xs.map .d) :=
  .mk (by simp [h.length]) fun j v x hv hx => by
    simp only [List.getElem?_map, Option.map_eq_some_iff] at hx
    obtain ⟨y, hy, rfl⟩ := hx
    exact .d _ _ (h.get hv hy)
end

/-- A slice that is under construction: who holds it may write behind its end. -/
def OwnRel (w : World) (G : Gh) (L : Loc) (v : Value) (sz : Nat) (l : List D) : Prop :=
  ∃ (b off cap : Nat) (c : Array Value) (E : TypeId) (fz : Nat × Nat) (vs : List Value),
    v = .slice (some ⟨b, off, none⟩) l.length cap ∧ l.length ≤ cap ∧ w.heap[b]? = some (.cells c E fz) ∧ (∀ j, j < c.size → ¬ (fz.1 ≤ j ∧ j < fz.2)) ∧
    off + cap * sz ≤ c.size ∧ 0 < sz ∧ G b = some (L, off + l.length * sz) ∧ (∀ d, d ∈ l → d.cells.length = sz) ∧ CellsAt w G b off vs ∧ RdL w G vs (l.flatMap D.cells)

/-- A value in a place of its own. 'lam': where the local boxes lie. -/
def RelV (w : World) (G : Gh) (ρ : List Nat) (L : Loc) (v : Value) : Val → Prop
  | .own sz (d :: l) => OwnRel w G L v sz (d :: l)
  | x => RelA w G ρ v x

def RelT (w : World) (G : Gh) (ρ : List Nat) (lam : Nat → Option Nat) (L : Loc) (v : Value) : Val → Prop
  | .lref t off => ∃ b, lam t = some b ∧ v = .pointer (some ⟨b, off, none⟩)
  | x => RelV w G ρ L v x

def RelBox (w : World) (G : Gh) (ρ : List Nat) (b : Nat) (L : Loc) (LC : Nat → Loc) (cs : List Val) : Prop :=
  ∃ (c : Array Value) (E : TypeId) (fz : Nat × Nat), w.heap[b]? = some (.cells c E fz) ∧ (∀ j, j < c.size → ¬ (fz.1 ≤ j ∧ j < fz.2)) ∧ G b = some (L, 0) ∧ cs.length ≤ c.size ∧
    ∀ j v x, c[j]? = some v → cs[j]? = some x → RelV w G ρ (LC j) v x

def RelO (w : World) (G : Gh) (ρ : List Nat) (i b : Nat) : Ob → Prop
  | .box cs => RelBox w G ρ b (.obj i) (.ocell i) cs
  | .map es => ∃ mes clock, w.heap[b]? = some (.map mes clock) ∧ G b = some (.obj i, 0) ∧ mes.size = es.length ∧
      ∀ (j : Nat) (e : MapEntry) (p : D × Val), mes[j]? = some e → es[j]? = some p → Rd w G e.key p.1 ∧ RelA w G ρ e.val p.2
  | .dead => True
  | .bld t e bs => ∃ p v : Value, w.heap[b]? = some (.cells #[p, v] t (0, 0)) ∧ G b = some (.obj i, 0) ∧ (p = .pointer none ∨ p = .pointer (some ⟨b, 0, none⟩)) ∧
      ((v = .slice none 0 0 ∧ bs = []) ∨ ∃ (g cap : Nat) (c : Array Value) (fz : Nat × Nat), v = .slice (some ⟨g, 0, none⟩) bs.length cap ∧ w.heap[g]? = some (.cells c e fz) ∧ G g = some (.ocell i 1, 0) ∧ fz.2 ≤ bs.length ∧ bs.length ≤ cap ∧ cap ≤ maxLen ∧ c.size = cap ∧
        c.toList.take bs.length = bs.map fun x => .int .u8 x.toNat)
  | .itr m => (∃ (since last : Nat), w.heap[b]? = some (.mapIter none since #[] last) ∧ G b = some (.obj i, 0) ∧ m = none) ∨
      ∃ (k b2 since last : Nat), m = some k ∧ ρ[k]? = some (b2 + 1) ∧ w.heap[b]? = some (.mapIter (some b2) since #[] last) ∧ G b = some (.obj i, 0)

def RelObs (w : World) (G : Gh) (ρ : List Nat) (s : Store) : Prop :=
  ρ.length = s.length ∧ ∀ i b o, ρ[i]? = some (b + 1) → s[i]? = some o → RelO w G ρ i b o

def RelG (gl : Nat → List D) (w : World) (G : Gh) : Prop := ∀ g, Rd w G (.pointer (some ⟨g, 0, none⟩)) (.iptr (gl g) 0)

/-- What a run may change. -/
structure Good (w : World) (G : Gh) (w' : World) (G' : Gh) : Prop where
  size : w.heap.size ≤ w'.heap.size
  imm : ∀ b, b < w.heap.size → (G b = none ∨ ∃ n, G b = some (.foreign, n)) → w'.heap[b]? = w.heap[b]? ∧ G' b = G b
  new : ∀ b n, w.heap.size ≤ b → G' b ≠ some (.foreign, n)
  old : ∀ b n, b < w.heap.size → G' b = some (.foreign, n) → G b = some (.foreign, n)
  keep : Keeps w G w' G'
  os : w'.os = w.os
  out : w'.output = w.output

theorem Keeps.refl (w : World) (G : Gh) : Keeps w G w G := ⟨fun _ _ _ h => h, fun _ _ _ h => h, fun _ _ h => h⟩
theorem Keeps.trans {w w' w'' : World} {G G' G'' : Gh} (h : Keeps w G w' G') (h' : Keeps w' G' w'' G'') : Keeps w G w'' G'' := ⟨fun _ _ _ c => h'.1 _ _ _ (h.1 _ _ _ c), fun _ _ _ c => h'.2.1 _ _ _ (h.2.1 _ _ _ c), fun _ _ c => h'.2.2 _ _ (h.2.2 _ _ c)⟩

theorem Good.trans {w w' w'' : World} {G G' G'' : Gh} (h : Good w G w' G') (h' : Good w' G' w'' G'') : Good w G w'' G'' where
  size := Nat.le_trans h.size h'.size
  imm b hb hG := by
    obtain ⟨h1, h2⟩ := h.imm b hb hG
    obtain ⟨h3, h4⟩ := h'.imm b (Nat.lt_of_lt_of_le hb h.size) (by rw [h2]; exact hG)
    exact ⟨h3.trans h1, h4.trans h2⟩
  new b n hb hG := by
    rcases Nat.lt_or_ge b w'.heap.size with hlt | hge
    · exact h.new b n hb (h'.old b n hlt hG)
    · exact h'.new b n hge hG
  old b n hb hG := h.old b n hb (h'.old b n (Nat.lt_of_lt_of_le hb h.size) hG)
  keep := h.keep.trans h'.keep
  os := h'.os.trans h.os
  out := h'.out.trans h.out

/-- The frame's own part: its temporaries and its boxes. -/
structure RelS (gl : Nat → List D) (w : World) (G : Gh) (ρ : List Nat) (lam : Nat → Option Nat) (tmps : Array Value) (st : St) : Prop where
  tm : ∀ t, RelT w G ρ lam (.slot t) (tmps.getD t undef) (st.tm t)
  bx : ∀ t cs, st.bx t = some cs → ∃ b, lam t = some b ∧ RelBox w G ρ b (.bbox t) (.bcell t) cs
  nb : ∀ t, st.bx t = none → lam t = none
  ob : RelObs w G ρ st.s
  gb : RelG gl w G
  lt : ∀ b L n, G b = some (L, n) → b < w.heap.size

end Go.Vm
end

section
/- The first lemmas on the relation: copies, constants, moves of ownership. Conditions: none. -/
namespace Go.Vm

theorem upd_self {α : Type} (f : Nat → α) (k : Nat) (v : α) : upd f k v k = v := by simp [upd]
theorem upd_ne {α : Type} (f : Nat → α) {k j : Nat} (v : α) (h : j ≠ k) : upd f k v j = f j := by
  have : Nat.beq j k = false := by rw [Bool.eq_false_iff]; intro h'; exact h (Nat.eq_of_beq_eq_true h')
  simp [upd, this]
theorem upd_eq {α : Type} (f : Nat → α) (k j : Nat) (v : α) : upd f k v j = if j = k then v else f j := by
  by_cases h : j = k
  · subst h; simp [upd_self]
  · simp [upd_ne f v h, h]

/-- The blocks of one owner are as they were, and are another one's now. -/
def SameL (L L' : Loc) (w : World) (G : Gh) (w' : World) (G' : Gh) : Prop := ∀ b n, G b = some (L, n) → w'.heap[b]? = w.heap[b]? ∧ G' b = some (L', n)

section
variable {w w' : World} {G G' : Gh} {ρ ρ' : List Nat} {lam : Nat → Option Nat} {L L' : Loc}

theorem RelV.of_A {v : Value} {x : Val} (h : RelA w G ρ v x) : RelV w G ρ L v x := by
  cases h <;> first | exact .undef _ | exact .d _ _ ‹_› | exact .nil _ _ | exact .ptr _ _ _ ‹_› | exact .map _ _ ‹_› | exact .sl _ _ _ _ _ _ _ ‹_› ‹_› ‹_› | exact .func _ _ _ _ _ ‹_› ‹_› | exact .agg _ _ ‹_› | exact .tuple _ _ ‹_› | exact .yl _ _ ‹_›

theorem RelV.cases {v : Value} {x : Val} (h : RelV w G ρ L v x) : RelA w G ρ v x ∨ ∃ sz d l, x = .own sz (d :: l) ∧ OwnRel w G L v sz (d :: l) := by
  unfold RelV at h
  split at h
  · exact .inr ⟨_, _, _, rfl, h⟩
  · exact .inl h

theorem RelT.of_V {v : Value} {x : Val} (h : RelV w G ρ L v x) : RelT w G ρ lam L v x := by
  rcases h.cases with h | ⟨sz, d, l, rfl, h⟩
  · cases h <;> first | exact .undef _ | exact .d _ _ ‹_› | exact .nil _ _ | exact .ptr _ _ _ ‹_› | exact .map _ _ ‹_› | exact .sl _ _ _ _ _ _ _ ‹_› ‹_› ‹_› | exact .func _ _ _ _ _ ‹_› ‹_› | exact .agg _ _ ‹_› | exact .tuple _ _ ‹_› | exact .yl _ _ ‹_›
  · exact h

theorem RelT.of_A {v : Value} {x : Val} (h : RelA w G ρ v x) : RelT w G ρ lam L v x := .of_V (.of_A h)

theorem RelT.cases {v : Value} {x : Val} (h : RelT w G ρ lam L v x) : RelV w G ρ L v x ∨ ∃ t off b, x = .lref t off ∧ lam t = some b ∧ v = .pointer (some ⟨b, off, none⟩) := by
  unfold RelT at h
  split at h
  · obtain ⟨b, h1, h2⟩ := h; exact .inr ⟨_, _, b, rfl, h1, h2⟩
  · exact .inl h

theorem OwnRel.tr (hk : Keeps w G w' G') (hs : SameL L L' w G w' G') {v : Value} {sz : Nat} {l : List D} (h : OwnRel w G L v sz l) : OwnRel w' G' L' v sz l := by
  obtain ⟨b, off, cap, c, E, fz, vs, h1, h2, h3, h4, h5, h6, h7, h8, h9, h10⟩ := h
  obtain ⟨e1, e2⟩ := hs _ _ h7
  exact ⟨b, off, cap, c, E, fz, vs, h1, h2, e1.trans h3, h4, h5, h6, e2, h8, h9.keep hk, h10.keep hk⟩

theorem RelV.tr (hk : Keeps w G w' G') (hρ : ∀ i b : Nat, ρ[i]? = some (b + 1) → ρ'[i]? = some (b + 1)) (hs : SameL L L' w G w' G') {v : Value} {x : Val} (h : RelV w G ρ L v x) : RelV w' G' ρ' L' v x := by
  rcases h.cases with h | ⟨sz, d, l, rfl, h⟩
  · exact .of_A (h.keep hk hρ)
  · exact OwnRel.tr hk hs h

theorem RelT.tr (hk : Keeps w G w' G') (hρ : ∀ i b : Nat, ρ[i]? = some (b + 1) → ρ'[i]? = some (b + 1)) {lam' : Nat → Option Nat} (hl : ∀ t b, lam t = some b → lam' t = some b) (hs : SameL L L' w G w' G') {v : Value} {x : Val} (h : RelT w G ρ lam L v x) : RelT w' G' ρ' lam' L' v x := by
  rcases h.cases with h | ⟨t, off, b, rfl, h1, h2⟩
  · exact .of_V (h.tr hk hρ hs)
  · exact ⟨b, hl _ _ h1, h2⟩

theorem RelBox.tr (hk : Keeps w G w' G') (hρ : ∀ i b : Nat, ρ[i]? = some (b + 1) → ρ'[i]? = some (b + 1)) {LC LC' : Nat → Loc} (hs : SameL L L' w G w' G') (hc : ∀ j, SameL (LC j) (LC' j) w G w' G') {b : Nat} {cs : List Val}
    (h : RelBox w G ρ b L LC cs) : RelBox w' G' ρ' b L' LC' cs := by
  obtain ⟨c, E, fz, h1, h2, h3, h4, h5⟩ := h
  obtain ⟨e1, e2⟩ := hs _ _ h3
  exact ⟨c, E, fz, e1.trans h1, h2, e2, h4, fun j v x hv hx => (h5 j v x hv hx).tr hk hρ (hc j)⟩

theorem RelO.tr (hk : Keeps w G w' G') (hρ : ∀ i b : Nat, ρ[i]? = some (b + 1) → ρ'[i]? = some (b + 1)) {i : Nat} (hs : SameL (.obj i) (.obj i) w G w' G') (hc : ∀ j, SameL (.ocell i j) (.ocell i j) w G w' G') {b : Nat} {o : Ob}
    (h : RelO w G ρ i b o) : RelO w' G' ρ' i b o := by
  cases o with
  | box cs => exact RelBox.tr hk hρ hs hc h
  | map es =>
    obtain ⟨mes, clock, h1, h2, h3, h4⟩ := h
    obtain ⟨e1, e2⟩ := hs _ _ h2
    exact ⟨mes, clock, e1.trans h1, e2, h3, fun j e p he hp => ⟨(h4 j e p he hp).1.keep hk, (h4 j e p he hp).2.keep hk hρ⟩⟩
  | dead => trivial
  | bld t e bs =>
    obtain ⟨p, v, h1, h2, h3, h4⟩ := h
    obtain ⟨e1, e2⟩ := hs _ _ h2
    refine ⟨p, v, e1.trans h1, e2, h3, ?_⟩
    rcases h4 with h4 | ⟨g, cap, c, fz, a1, a2, a3, a4⟩
    · exact .inl h4
    · obtain ⟨f1, f2⟩ := hc 1 _ _ a3
      exact .inr ⟨g, cap, c, fz, a1, f1.trans a2, f2, a4⟩
  | itr m =>
    rcases h with ⟨since, last, h1, h2, h3⟩ | ⟨k, b2, since, last, h1, h2, h3, h4⟩
    · obtain ⟨e1, e2⟩ := hs _ _ h2
      exact .inl ⟨since, last, e1.trans h1, e2, h3⟩
    · obtain ⟨e1, e2⟩ := hs _ _ h4
      exact .inr ⟨k, b2, since, last, h1, hρ _ _ h2, e1.trans h3, e2⟩

theorem RelObs.tr (hk : Keeps w G w' G') {s : Store} (hs : ∀ i, SameL (.obj i) (.obj i) w G w' G') (hc : ∀ i j, SameL (.ocell i j) (.ocell i j) w G w' G') (h : RelObs w G ρ s) : RelObs w' G' ρ s :=
  ⟨h.1, fun i b o hb ho => (h.2 i b o hb ho).tr hk (fun _ _ h => h) (hs i) (hc i)⟩

theorem RelG.tr {gl : Nat → List D} (hk : Keeps w G w' G') (h : RelG gl w G) : RelG gl w' G' := fun g => (h g).keep hk

/-! ### Copies -/

theorem OwnRel.rd {v : Value} {sz : Nat} {l : List D} (h : OwnRel w G L v sz l) : Rd w G v (.list sz l) := by
  obtain ⟨b, off, cap, c, E, fz, vs, h1, h2, h3, h4, h5, h6, h7, h8, h9, h10⟩ := h
  subst h1
  exact .list b off _ cap sz l vs rfl h2 h8 h9 h10

theorem RelV.snap {v : Value} {x : Val} (h : RelV w G ρ L v x) : RelA w G ρ v (snap x) := by
  rcases h.cases with h | ⟨sz, d, l, rfl, h⟩
  · cases h <;> first | exact .d _ _ (.list0 _ _ _) | exact .undef _ | exact .d _ _ ‹_› | exact .ptr _ _ _ ‹_› | exact .map _ _ ‹_› | exact .sl _ _ _ _ _ _ _ ‹_› ‹_› ‹_› | exact .func _ _ _ _ _ ‹_› ‹_› | exact .agg _ _ ‹_› | exact .tuple _ _ ‹_› | exact .yl _ _ ‹_›
  · exact .d _ _ h.rd

theorem RelT.snap {v : Value} {x : Val} (h : RelT w G ρ lam L v x) : RelT w G ρ lam L' v (snap x) := by
  rcases h.cases with h | ⟨t, off, b, rfl, h1, h2⟩
  · exact .of_A h.snap
  · exact ⟨b, h1, h2⟩

theorem frzC_rd {v : Value} {x : Val} {d : D} (h : RelV w G ρ L v x) (hf : frzC x = some d) : Rd w G v d := by
  have := h.snap
  cases x <;> simp only [frzC, Option.some.injEq, reduceCtorEq] at hf
  · subst hf; cases this; assumption
  · subst hf; cases this; assumption

theorem frzL_rd {LC : Nat → Loc} : ∀ {vs : List Value} {xs : List Val} {ds : List D} {k : Nat}, vs.length = xs.length → (∀ j v x, vs[j]? = some v → xs[j]? = some x → RelV w G ρ (LC (k + j)) v x) → frzL xs = some ds → RdL w G vs ds
  | [], [], ds, _, _, _, hf => by simp only [frzL, Option.some.injEq] at hf; subst hf; exact .nil
  | [], _ :: _, _, _, h, _, _ => by simp at h
  | _ :: _, [], _, _, h, _, _ => by simp at h
  | v :: vs, x :: xs, ds, k, h, hr, hf => by
    simp only [frzL] at hf
    cases hx : frzC x with
    | none => simp [hx] at hf
    | some d =>
      cases hy : frzL xs with
      | none => simp [hx, hy] at hf
      | some l =>
        simp only [hx, hy, Option.some.injEq] at hf
        subst hf
        exact .cons _ _ _ _ (frzC_rd (hr 0 v x rfl rfl) hx) (frzL_rd (k := k + 1) (by simpa using h) (fun j v x hv hx => by
          have := hr (j + 1) v x (by simpa using hv) (by simpa using hx)
          rwa [Nat.add_assoc, Nat.add_comm 1 j]) hy)

/-- Cells, each in a place of its own, read as one value. -/
theorem frz_agg {LC : Nat → Loc} {vs : List Value} {xs : List Val} (hl : vs.length = xs.length) (hr : ∀ j v x, vs[j]? = some v → xs[j]? = some x → RelV w G ρ (LC j) v x) : RelA w G ρ (.agg ⟨vs⟩) (frz (.agg xs)) := by
  simp only [frz]
  cases hf : frzL xs with
  | some ds => exact .d _ _ (.agg _ _ (frzL_rd (k := 0) hl (fun j v x hv hx => by rw [Nat.zero_add]; exact hr j v x hv hx) hf))
  | none => exact .agg _ _ (.mk (by simpa using hl) fun j v x hv hx => by
      simp only [List.getElem?_map, Option.map_eq_some_iff] at hx
      obtain ⟨y, hy, rfl⟩ := hx
      exact (hr j v y hv hy).snap)

theorem RelA.frz {v : Value} {x : Val} (h : RelA w G ρ v x) : RelA w G ρ v (frz x) := by
  cases h with
  | agg vs cs h => exact frz_agg (LC := fun _ => .res) h.length fun j v x hv hx => .of_A (h.get hv hx)
  | nil a sz => exact .d _ _ (.list0 _ _ _)
  | undef v => exact .undef v
  | d v x h => exact .d v x h
  | ptr _ _ _ h => exact .ptr _ _ _ h
  | map _ _ h => exact .map _ _ h
  | sl _ _ _ _ _ _ _ h hc hz => exact .sl _ _ _ _ _ _ _ h hc hz
  | func _ _ _ _ _ h1 h2 => exact .func _ _ _ _ _ h1 h2
  | tuple _ _ h => exact .tuple _ _ h
  | yl _ _ h => exact .yl _ _ h

theorem RelV.frz {v : Value} {x : Val} (h : RelV w G ρ L v x) : RelA w G ρ v (frz x) := by
  rcases h.cases with h | ⟨sz, d, l, rfl, h⟩
  · exact h.frz
  · exact .d _ _ h.rd

theorem RelT.frz {v : Value} {x : Val} (h : RelT w G ρ lam L v x) : RelT w G ρ lam L' v (frz x) := by
  rcases h.cases with h | ⟨t, off, b, rfl, h1, h2⟩
  · exact .of_A h.frz
  · exact ⟨b, h1, h2⟩

theorem RelT.toD {v : Value} {x : Val} {d : D} (h : RelT w G ρ lam L v x) (hd : toD x = some d) : Rd w G v d := by
  have := h.frz (L' := L)
  unfold Vm.toD at hd
  split at hd
  · rename_i y hy
    simp only [Option.some.injEq] at hd
    subst hd
    rw [hy] at this
    cases this; assumption
  · simp at hd

/-- A value in no place of its own. -/
theorem RelT.of_noL {v : Value} {x : Val} {n : Nat} (h : RelT w G ρ lam L v x) (hn : noL n x = true) : RelV w G ρ L v x := by
  rcases h.cases with h | ⟨t, off, b, rfl, h1, h2⟩
  · exact h
  · cases n <;> simp [noL] at hn

/-! ### Constants -/

theorem cellRel_A {v : Value} {x : Val} (h : cellRel v x = true) : RelA w G ρ v x := by
  unfold cellRel at h
  split at h <;> first
    | (simp at h; subst h; exact .d _ _ (.bool _))
    | (simp at h; obtain ⟨rfl, rfl⟩ := h; exact .d _ _ (.int _ _))
    | (simp at h; exact .d _ _ (.str _ _ h))
    | exact .d _ _ .nilp
    | exact .d _ _ .nilm
    | exact .d _ _ .nilf
    | exact .d _ _ .nili
    | exact .nil _ _
    | (simp at h; obtain ⟨⟨rfl, rfl⟩, rfl⟩ := h; exact .d _ _ (.fn _))
    | simp at h

theorem cellsRel_L : ∀ {vs : List Value} {xs : List Val}, vs.length = xs.length → (vs.zip xs).all (fun p => cellRel p.1 p.2) = true → RelL w G ρ vs xs
  | [], [], _, _ => .nil
  | [], _ :: _, h, _ => by simp at h
  | _ :: _, [], h, _ => by simp at h
  | v :: vs, x :: xs, h, hr => by
    simp only [List.zip_cons_cons, List.all_cons, Bool.and_eq_true] at hr
    exact .cons _ _ _ _ (cellRel_A hr.1) (cellsRel_L (by simpa using h) hr.2)

theorem constRel_A {v : Value} {x : Val} (h : constRel v x = true) : RelA w G ρ v x := by
  unfold constRel at h
  split at h
  · rename_i vs cs
    simp only [Bool.and_eq_true, decide_eq_true_eq] at h
    obtain ⟨vs⟩ := vs
    exact .agg _ _ (cellsRel_L (by simpa using h.1) (by simpa using h.2))
  · rename_i vs
    obtain ⟨vs⟩ := vs
    cases vs with
    | nil => exact .tuple [] [] .nil
    | cons a b => simp at h
  · exact cellRel_A h

section
variable {P : Program} {gl : Nat → List D} {a : Act} {st : St}

theorem ev_rel {t : Nat} {x : Operand} {y : O} (hx : opd P t x = some y) (h : RelS gl w G ρ lam a.tmps st) : ∃ L, RelT w G ρ lam L (a.eval x) (ev gl st y) ∧ ∀ s, y = .t s → L = .slot s := by
  cases x with
  | tmp n => simp only [opd, Option.some.injEq] at hx; subst hx; exact ⟨.slot n, h.tm n, fun s hs => by cases hs; rfl⟩
  | const v =>
    simp only [opd, Option.map_eq_some_iff] at hx
    obtain ⟨z, hz, rfl⟩ := hx
    refine ⟨.res, .of_A ?_, fun s hs => by cases hs⟩
    unfold constV at hz
    split at hz
    · split at hz
      · simp only [Option.some.injEq] at hz; subst hz; exact constRel_A ‹_›
      · simp at hz
    · simp at hz
  | global g => simp only [opd, Option.some.injEq] at hx; subst hx; exact ⟨.res, .of_A (.d _ _ (h.gb g)), fun s hs => by cases hs⟩
  | func f => simp only [opd, Option.some.injEq] at hx; subst hx; exact ⟨.res, .of_A (.d _ _ (.fn f)), fun s hs => by cases hs⟩

theorem RelS.set {tmps : Array Value} {d : Nat} {v : Value} {x : Val} (h : RelS gl w G ρ lam tmps st) (hd : d < tmps.size) (hv : RelT w G ρ lam (.slot d) v x) : RelS gl w G ρ lam (tmps.setIfInBounds d v) (st.set d x) where
  tm t := by
    simp only [St.set, upd_eq]
    by_cases ht : t = d
    · subst ht; simp [hd]; exact hv
    · simp only [ht, if_false]
      have : (tmps.setIfInBounds d v).getD t undef = tmps.getD t undef := by
        simp only [Array.getD_eq_getD_getElem?, Array.getElem?_setIfInBounds_ne (Ne.symm ht)]
      rw [this]; exact h.tm t
  bx := h.bx
  nb := h.nb
  ob := h.ob
  gb := h.gb
  lt := h.lt

end
end
end Go.Vm
end

section
/- What a call of the machine stands for; the first operations. Conditions: none. -/
namespace Go.Vm

/-- A function of the program's own. -/
def Callable (P : Program) (f : Nat) : Prop := ∃ fn, P.funcs[f]? = some fn ∧ fn.body.isNone = false ∧ (fn.name == "runtime.NumGoroutine") = false

/-- In every world that reads as told the call returns what reads as told. -/
def VEv (P : Program) (gl : Nat → List D) (f : Nat) (args : List Val) (s : Store) (r : Val) (s' : Store) : Prop :=
  Callable P f ∧ ∀ (w : World) (G : Gh) (ρ : List Nat) (vs : List Value), RelObs w G ρ s → RelG gl w G → (∀ b L n, G b = some (L, n) → b < w.heap.size) → RelL w G ρ vs args →
    Calls P f ⟨vs⟩ w fun e w' => ∃ v G' ρ', e = .returned v ∧ RelV w' G' ρ' .res v r ∧ RelObs w' G' ρ' s' ∧ (∀ b L n, G' b = some (L, n) → b < w'.heap.size) ∧ Good w G w' G' ∧
      (∀ i b : Nat, ρ[i]? = some b → ρ'[i]? = some b)

/-- The code is the function's. -/
def Compiled (P : Program) (f : Nat) (vf : VF) : Prop := ∃ fn an, P.funcs[f]? = some fn ∧ (fn.name == "runtime.NumGoroutine") = false ∧ compF P an fn = some vf

def AP (P : Program) (gl : Nat → List D) : Alg Prop where
  fail := False
  guard b p := b = true ∧ p
  call f args s K := ∃ r s', VEv P gl f args s r s' ∧ K r s'
  fix F st := ∃ (I : Nat → St → Prop) (n : Nat), I n st ∧ ∀ n st, I n st → F st fun st' => ∃ m, m < n ∧ I m st'
  both := And
  iter g k := ∃ vf, Compiled P g vf ∧ k vf

theorem Good.refl {w : World} {G : Gh} (h : ∀ b L n, G b = some (L, n) → b < w.heap.size) : Good w G w G where
  size := Nat.le_refl _
  imm _ _ _ := ⟨rfl, rfl⟩
  new _ _ hb hG := absurd (h _ _ _ hG) (Nat.not_lt.2 hb)
  old _ _ _ h := h
  keep := Keeps.refl _ _
  os := rfl
  out := rfl

theorem pre_app {ρ l : List Nat} : ∀ i b : Nat, ρ[i]? = some b → (ρ ++ l)[i]? = some b := by
  intro i b h
  have hl : i < ρ.length := by
    rcases Nat.lt_or_ge i ρ.length with h' | h'
    · exact h'
    · rw [List.getElem?_eq_none h'] at h; simp at h
  rw [List.getElem?_append_left hl]; exact h

def mark (D : Nat) : Deferred := { target := .collected D, args := #[] }

/-- The marks of ranges over functions: blocks from 'n0' on that nobody writes. -/
def Marks (n0 : Nat) (w : World) (G : Gh) (l : List Deferred) : Prop :=
  ∃ Ds : List Nat, l = Ds.map mark ∧ Ds.Nodup ∧ ∀ D, D ∈ Ds → n0 ≤ D ∧ w.heap[D]? = some (.deferred (some [])) ∧ G D = none

theorem Marks.good {n0 : Nat} {w w' : World} {G G' : Gh} {l : List Deferred} (h : Marks n0 w G l) (hg : Good w G w' G') : Marks n0 w' G' l := by
  obtain ⟨Ds, h1, h2, h3⟩ := h
  refine ⟨Ds, h1, h2, fun D hD => ?_⟩
  obtain ⟨e1, e2, e3⟩ := h3 D hD
  have hlt : D < w.heap.size := (Array.getElem?_eq_some_iff.1 e2).1
  obtain ⟨i1, i2⟩ := hg.imm D hlt (.inl e3)
  exact ⟨e1, i1.trans e2, i2.trans e3⟩

theorem Marks.nil {n0 : Nat} {w : World} {G : Gh} : Marks n0 w G [] := ⟨[], rfl, List.nodup_nil, fun D hD => by simp at hD⟩

def After (n0 : Nat) (gl : Nat → List D) (nt : Nat) (w : World) (G : Gh) (ρ : List Nat) (K : St → Prop) (a' : Act) (w' : World) : Prop :=
  nt ≤ a'.tmps.size ∧ ∃ G' ρ' lam' st', Marks n0 w' G' a'.defers ∧ RelS gl w' G' ρ' lam' a'.tmps st' ∧ Good w G w' G' ∧ (∀ i b : Nat, ρ[i]? = some b → ρ'[i]? = some b) ∧ K st'

theorem after_mk {gl : Nat → List D} {n0 nt : Nat} {w w' : World} {G : Gh} {ρ : List Nat} {a a' : Act} {K : St → Prop} (hm : Marks n0 w G a.defers) (h1 : a'.defers = a.defers) (h2 : nt ≤ a'.tmps.size) (G' : Gh) (ρ' : List Nat)
    (lam' : Nat → Option Nat) (st' : St) (h3 : RelS gl w' G' ρ' lam' a'.tmps st') (h4 : Good w G w' G') (h5 : ∀ i b : Nat, ρ[i]? = some b → ρ'[i]? = some b) (h6 : K st') : After n0 gl nt w G ρ K a' w' :=
  ⟨h2, G', ρ', lam', st', by rw [h1]; exact hm.good h4, h3, h4, h5, h6⟩

section
variable {P : Program} {gl : Nat → List D} {n0 nt : Nat} {a : Act} {w w' : World} {G G' : Gh} {ρ ρ' : List Nat} {lam lam' : Nat → Option Nat} {st st' : St} {K : St → Prop} {o : Oper} {Q : Exit → Act → World → Prop}

theorem wp_value {next : Act → World → Prop} {v : Value} (hr : (execOp a.eval o).run P w = .ok (.value v) w') (h : next (a.put o.dst v) w') : o.wp P a w next Q := by
  unfold Oper.wp; rw [hr]; exact h

theorem wp_skip' {next : Act → World → Prop} (hr : (execOp a.eval o).run P w = .ok .skip w') (h : next (a.put o.dst undef) w') : o.wp P a w next Q := by
  unfold Oper.wp; rw [hr]; exact h

theorem put_size (a : Act) (d : Option Nat) (v : Value) : (a.put d v).tmps.size = a.tmps.size := by
  cases d <;> simp [Act.put]

theorem put_defers (a : Act) (d : Option Nat) (v : Value) : (a.put d v).defers = a.defers := by
  cases d <;> simp [Act.put]

/-- A value is laid into a temporary, over the same or another world. -/
theorem after_set {w0 : World} {G0 : Gh} {ρ0 : List Nat} {d : Nat} {v : Value} {x : Val} (h : RelS gl w G ρ lam a.tmps st) (hd0 : Marks n0 w0 G0 a.defers) (hn : nt ≤ a.tmps.size) (hdt : d < nt) (hg : Good w0 G0 w G) (hρ0 : ∀ i b : Nat, ρ0[i]? = some b → ρ[i]? = some b) (hod : o.dst = some d)
    (hv : RelT w G ρ lam (.slot d) v x) (hK : K (st.set d x)) : After n0 gl nt w0 G0 ρ0 K (a.put o.dst v) w :=
  (after_mk hd0 (put_defers _ _ _) (by rw [put_size]; exact hn) G ρ lam _ (by rw [hod]; exact h.set (Nat.lt_of_lt_of_le hdt hn) hv) hg hρ0 hK)

/-! ### Ownership is handed on -/

def relab (φ : Loc → Loc) (G : Gh) : Gh := fun b => (G b).map fun p => (φ p.1, p.2)

theorem relab_some {φ : Loc → Loc} {b : Nat} {L : Loc} {n : Nat} (h : G b = some (L, n)) : relab φ G b = some (φ L, n) := by simp [relab, h]
theorem relab_inv {φ : Loc → Loc} {b : Nat} {L : Loc} {n : Nat} (h : relab φ G b = some (L, n)) : ∃ L', G b = some (L', n) ∧ φ L' = L := by
  unfold relab at h
  cases hg : G b with
  | none => simp [hg] at h
  | some p => obtain ⟨L', n'⟩ := p; simp only [hg, Option.map_some, Option.some.injEq, Prod.mk.injEq] at h; obtain ⟨h1, rfl⟩ := h; exact ⟨L', rfl, h1⟩
theorem relab_fz {φ : Loc → Loc} {b off : Nat} : Fz (relab φ G) b off ↔ Fz G b off :=
  ⟨fun h L n hg => h _ n (relab_some hg), fun h L n hg => by obtain ⟨L', hg', _⟩ := relab_inv hg; exact h _ _ hg'⟩
theorem relab_none {φ : Loc → Loc} {b : Nat} : relab φ G b = none ↔ G b = none := by simp [relab]
theorem relab_keeps (φ : Loc → Loc) : Keeps w G w (relab φ G) := ⟨fun _ _ _ h => ⟨h.1, relab_fz.2 h.2.1, h.2.2⟩, fun _ _ _ h => ⟨relab_none.2 h.1, h.2⟩, fun _ _ h => h⟩
theorem relab_keeps' (φ : Loc → Loc) : Keeps w (relab φ G) w G := ⟨fun _ _ _ h => ⟨h.1, relab_fz.1 h.2.1, h.2.2⟩, fun _ _ _ h => ⟨relab_none.1 h.1, h.2⟩, fun _ _ h => h⟩
theorem relab_same (φ : Loc → Loc) (L : Loc) : SameL L (φ L) w G w (relab φ G) := fun _ _ h => ⟨rfl, relab_some h⟩
theorem relab_same' {φ : Loc → Loc} {L : Loc} (h : φ L = L) : SameL L L w G w (relab φ G) := by have := relab_same (w := w) (G := G) φ L; rwa [h] at this
theorem relab_good {φ : Loc → Loc} (h : ∀ b L n, G b = some (L, n) → b < w.heap.size) (h1 : φ .foreign = .foreign) (h2 : ∀ L, φ L = .foreign → L = .foreign) : Good w G w (relab φ G) where
  size := Nat.le_refl _
  imm b _ hG := ⟨rfl, by rcases hG with hG | ⟨n, hG⟩ <;> simp [relab, hG, h1]⟩
  new b n hb hG := by obtain ⟨L', hg, _⟩ := relab_inv hG; exact absurd (h _ _ _ hg) (Nat.not_lt.2 hb)
  old b n hb hG := by obtain ⟨L', hg, he⟩ := relab_inv hG; rw [h2 _ he] at hg; exact hg
  keep := relab_keeps φ
  os := rfl
  out := rfl
theorem relab_lt {φ : Loc → Loc} (h : ∀ b L n, G b = some (L, n) → b < w.heap.size) : ∀ b L n, relab φ G b = some (L, n) → b < w.heap.size :=
  fun _ _ _ hg => by obtain ⟨L', hg', _⟩ := relab_inv hg; exact h _ _ _ hg'

def swapL (s d : Loc) (L : Loc) : Loc := if L = s then d else L
theorem swapL_ne {s d L : Loc} (h : L ≠ s) : swapL s d L = L := by simp [swapL, h]
theorem swapL_self {s d : Loc} : swapL s d s = d := by simp [swapL]

theorem swap_good {s d : Loc} (h : ∀ b L n, G b = some (L, n) → b < w.heap.size) (hs : s ≠ .foreign) (hd : d ≠ .foreign) : Good w G w (relab (swapL s d) G) :=
  relab_good h (swapL_ne (Ne.symm hs)) fun L hL => by
    by_cases h : L = s
    · subst h; rw [swapL_self] at hL; exact absurd hL hd
    · rwa [swapL_ne h] at hL

/-- A slot's value is moved to another slot. -/
theorem RelS.take {d s : Nat} (h : RelS gl w G ρ lam a.tmps st) (hd : d < a.tmps.size) :
    RelS gl w (relab (swapL (.slot s) (.slot d)) G) ρ lam (a.tmps.setIfInBounds d (a.tmps.getD s undef)) ((st.set s .undef).set d (st.tm s)) := by
  have hk : Keeps w G w (relab (swapL (.slot s) (.slot d)) G) := relab_keeps _
  have hid : ∀ L, L ≠ .slot s → SameL L L w G w (relab (swapL (.slot s) (.slot d)) G) := fun L hL => relab_same' (swapL_ne hL)
  refine RelS.set (st := st.set s .undef) ⟨?_, ?_, h.nb, ?_, h.gb.tr hk, relab_lt h.lt⟩ hd ?_
  · intro t
    simp only [St.set, upd_eq]
    by_cases ht : t = s
    · simp only [ht, if_true]; exact .of_A (.undef _)
    · simp only [ht, if_false]
      exact (h.tm t).tr hk (fun _ _ h => h) (fun _ _ h => h) (hid _ (by simp [ht]))
  · intro t cs hb
    obtain ⟨b, h1, h2⟩ := h.bx t cs hb
    exact ⟨b, h1, RelBox.tr hk (fun _ _ h => h) (hid _ (by simp)) (fun j => hid _ (by simp)) h2⟩
  · exact h.ob.tr hk (fun i => hid _ (by simp)) (fun i j => hid _ (by simp))
  · have := relab_same (w := w) (G := G) (swapL (.slot s) (.slot d)) (.slot s)
    rw [swapL_self] at this
    exact (h.tm s).tr hk (fun _ _ h => h) (fun _ _ h => h) this

theorem after_take {w0 : World} {G0 : Gh} {ρ0 : List Nat} {d s : Nat} (h : RelS gl w G ρ lam a.tmps st) (hd0 : Marks n0 w0 G0 a.defers) (hn : nt ≤ a.tmps.size) (hdt : d < nt) (hg : Good w0 G0 w G) (hρ0 : ∀ i b : Nat, ρ0[i]? = some b → ρ[i]? = some b) (hod : o.dst = some d)
    (hK : K ((st.set s .undef).set d (st.tm s))) : After n0 gl nt w0 G0 ρ0 K (a.put o.dst (a.tmps.getD s undef)) w :=
  (after_mk hd0 (put_defers _ _ _) (by rw [put_size]; exact hn) _ ρ lam _ (by rw [hod]; exact h.take (Nat.lt_of_lt_of_le hdt hn)) (hg.trans (swap_good h.lt (by simp) (by simp))) hρ0 hK)

/-! ### Operations that leave the world alone -/

theorem ev_snap {t : Nat} {x : Operand} {y : O} {L : Loc} (hx : opd P t x = some y) (h : RelS gl w G ρ lam a.tmps st) : RelT w G ρ lam L (a.eval x) (snap (ev gl st y)) := by
  obtain ⟨L0, h1, _⟩ := ev_rel hx h
  exact h1.snap

theorem ev_any {t : Nat} {x : Operand} {y : O} (hx : opd P t x = some y) (h : RelS gl w G ρ lam a.tmps st) : ∃ L, RelT w G ρ lam L (a.eval x) (ev gl st y) := by
  obtain ⟨L0, h1, _⟩ := ev_rel hx h
  exact ⟨L0, h1⟩

/-- An operand that is no temporary has a value that nobody holds. -/
theorem ev_const {t : Nat} {x : Operand} {y : O} (hx : opd P t x = some y) (h : RelS gl w G ρ lam a.tmps st) : (∃ s, x = .tmp s ∧ y = .t s) ∨ ((∀ s, y ≠ .t s) ∧ RelA w G ρ (a.eval x) (ev gl st y)) := by
  cases x with
  | tmp n => simp only [opd, Option.some.injEq] at hx; exact .inl ⟨n, rfl, hx.symm⟩
  | const v =>
    simp only [opd, Option.map_eq_some_iff] at hx
    obtain ⟨z, hz, rfl⟩ := hx
    refine .inr ⟨(fun s hs => by cases hs), ?_⟩
    unfold constV at hz
    split at hz
    · split at hz
      · simp only [Option.some.injEq] at hz; subst hz; exact constRel_A ‹_›
      · simp at hz
    · simp at hz
  | global g => simp only [opd, Option.some.injEq] at hx; subst hx; exact .inr ⟨(fun s hs => by cases hs), .d _ _ (h.gb g)⟩
  | func f => simp only [opd, Option.some.injEq] at hx; subst hx; exact .inr ⟨(fun s hs => by cases hs), .d _ _ (.fn f)⟩

/-- What all lemmas on one operation are told. -/
structure Pre (n0 : Nat) (gl : Nat → List D) (nt : Nat) (w : World) (G : Gh) (ρ : List Nat) (lam : Nat → Option Nat) (a : Act) (st : St) : Prop where
  rel : RelS gl w G ρ lam a.tmps st
  df : Marks n0 w G a.defers
  sz : nt ≤ a.tmps.size

theorem Pre.value {d : Nat} {v : Value} {x : Val} (p : Pre n0 gl nt w G ρ lam a st) (hod : o.dst = some d) (hdt : d < nt) (hr : (execOp a.eval o).run P w = .ok (.value v) w)
    (hv : RelT w G ρ lam (.slot d) v x) (hK : K (st.set d x)) : o.wp P a w (After n0 gl nt w G ρ K) Q :=
  wp_value hr (after_set p.rel p.df p.sz hdt (Good.refl p.rel.lt) (fun _ _ h => h) hod hv hK)

theorem sim_mv {d : Nat} {x : Operand} {y : O} {t : Nat} (p : Pre n0 gl nt w G ρ lam a st) (hod : o.dst = some d) (hdt : d < nt) (hop : o.op = .move x) (hx : opd P t x = some y)
    (hs : step (AP P gl) gl (.mv d y) st K) : o.wp P a w (After n0 gl nt w G ρ K) Q :=
  p.value hod hdt (v := a.eval x) (by simp only [execOp, hop]; rfl) (ev_snap hx p.rel) hs

theorem sim_tk {d s : Nat} (p : Pre n0 gl nt w G ρ lam a st) (hod : o.dst = some d) (hdt : d < nt) (hop : o.op = .move (.tmp s))
    (hs : step (AP P gl) gl (.tk d s) st K) : o.wp P a w (After n0 gl nt w G ρ K) Q :=
  wp_value (v := a.tmps.getD s undef) (by simp only [execOp, hop]; rfl) (after_take p.rel p.df p.sz hdt (Good.refl p.rel.lt) (fun _ _ h => h) hod hs)

theorem kill_cases (st : St) (y : O) : (kill st y = st ∧ (∀ s, y = .t s → ∀ sz l, st.tm s ≠ .own sz l)) ∨ ∃ s, y = .t s ∧ kill st y = st.set s .undef ∧ ∃ sz l, st.tm s = .own sz l := by
  cases y with
  | t s =>
    cases hx : st.tm s with
    | own sz l => exact .inr ⟨s, rfl, by simp [kill, hx], sz, l, hx⟩
    | _ => exact .inl ⟨by simp [kill, hx], fun s' hs' sz l => by cases hs'; simp [hx]⟩
  | c v => exact .inl ⟨rfl, fun s hs => by cases hs⟩
  | g n => exact .inl ⟨rfl, fun s hs => by cases hs⟩

theorem RelT.not_own {v : Value} {x : Val} {L L' : Loc} (h : RelT w G ρ lam L v x) (hx : ∀ sz l, x ≠ .own sz l) : RelT w G ρ lam L' v x := by
  rcases h.cases with h | ⟨t, off, b, rfl, h1, h2⟩
  · rcases h.cases with h | ⟨sz, d, l, rfl, h⟩
    · exact .of_A h
    · exact absurd rfl (hx sz (d :: l))
  · exact ⟨b, h1, h2⟩

theorem sim_asg {d : Nat} {x : Operand} {y : O} {t : Nat} (p : Pre n0 gl nt w G ρ lam a st) (hod : o.dst = some d) (hdt : d < nt) (hop : o.op = .assign x) (hx : opd P t x = some y)
    (hs : step (AP P gl) gl (.asg d y) st K) : o.wp P a w (After n0 gl nt w G ρ K) Q := by
  have hr : (execOp a.eval o).run P w = .ok (.value (a.eval x)) w := by simp only [execOp, hop]; rfl
  simp only [step] at hs
  rcases ev_const hx p.rel with ⟨s, rfl, rfl⟩ | ⟨hn, hA⟩
  · rcases kill_cases st (.t s) with ⟨hk, hno⟩ | ⟨s', hs', hk, _⟩
    · rw [hk] at hs
      exact p.value hod hdt hr ((p.rel.tm s).not_own (hno s rfl)) hs
    · cases hs'
      rw [hk] at hs
      exact wp_value hr (after_take p.rel p.df p.sz hdt (Good.refl p.rel.lt) (fun _ _ h => h) hod hs)
  · rcases kill_cases st y with ⟨hk, _⟩ | ⟨s', hs', hk, _⟩
    · rw [hk] at hs
      exact p.value hod hdt hr (.of_A hA) hs
    · exact absurd hs' (hn s')

theorem RelT.dat {v : Value} {x : D} {L : Loc} (h : RelT w G ρ lam L v (.d x)) : Rd w G v x := by
  have h' : RelA w G ρ v (.d x) := h
  cases h'; assumption

theorem RelT.bool {v : Value} {b : Bool} {L : Loc} (h : RelT w G ρ lam L v (.d (.bool b))) : v = .bool b := by
  have := h.dat; cases this; rfl
theorem RelT.int {v : Value} {k : IntKind} {n : Int} {L : Loc} (h : RelT w G ρ lam L v (.d (.int k n))) : v = .int k n := by
  have := h.dat; cases this; rfl
theorem RelT.str {v : Value} {l : List UInt8} {L : Loc} (h : RelT w G ρ lam L v (.d (.str l))) : ∃ s : ByteArray, v = .string s ∧ s.data.toList = l := by
  have := h.dat
  cases this with | str s _ h => exact ⟨s, rfl, h⟩

theorem sim_pk {d : Nat} {c x y : Operand} {c' x' y' : O} {t u : Nat} (p : Pre n0 gl nt w G ρ lam a st) (hod : o.dst = some d) (hdt : d < nt) (hop : o.op = .pick c x y) (hc : opd P t c = some c') (hx : opd P u x = some x') (hy : opd P u y = some y')
    (hs : step (AP P gl) gl (.pk d c' x' y') st K) : o.wp P a w (After n0 gl nt w G ρ K) Q := by
  obtain ⟨L, hcr⟩ := ev_any hc p.rel
  simp only [step] at hs
  split at hs
  · rename_i b hb
    rw [hb] at hcr
    have hcb := hcr.bool
    cases b with
    | true => exact p.value hod hdt (v := a.eval x) (by simp [execOp, hop, hcb, asBool, Bind.bind, Sem.bind, Pure.pure]) (ev_snap hx p.rel) (by simpa using hs)
    | false => exact p.value hod hdt (v := a.eval y) (by simp [execOp, hop, hcb, asBool, Bind.bind, Sem.bind, Pure.pure]) (ev_snap hy p.rel) (by simpa using hs)
  · exact hs.elim

end
end Go.Vm
end

section
/- Operations on values: arithmetic, strings, addresses. Conditions: none. -/
namespace Go.Vm

section
variable {P : Program} {gl : Nat → List D} {n0 nt : Nat} {a : Act} {w w' : World} {G G' : Gh} {ρ ρ' : List Nat} {lam lam' : Nat → Option Nat} {st st' : St} {K : St → Prop} {o : Oper} {Q : Exit → Act → World → Prop}

theorem underlying_run {t : Nat} {d : TypeDesc} (h : P.underlying t = some d) (w : World) : (underlying t).run P w = .ok d w := by
  unfold underlying; simp [Sem.run_bind, h]

theorem szOf_run {t n : Nat} (h : szOf P t = some n) (w : World) : (sizeOf t).run P w = .ok n w := by
  unfold szOf at h
  cases hi : P.info? t with
  | none => simp [hi] at h
  | some i =>
    simp [hi] at h
    simp [sizeOf, typeInfo, Sem.run_bind, hi, h]

theorem aggOf_run {t : Nat} {b : Bool} (h : aggOf P t = some b) (w : World) : (isAgg t).run P w = .ok b w := by
  unfold aggOf at h
  unfold isAgg
  cases hu : P.underlying t with
  | none => simp [hu] at h
  | some d =>
    rw [Sem.run_bind, underlying_run hu w]
    cases d <;> simp [hu] at h <;> subst h <;> rfl

/-! ### Integers and strings -/

theorem int_beq (x y : Int) : (x == y) = decide (x = y) := by
  by_cases h : x = y <;> simp [h]

theorem intOp_run {op : BinOp} {k : IntKind} {x y : Int} {r : D} {ok : Bool} (h : intOp op k x y = some (ok, r)) (hok : ok = true) (t : Nat) :
    ∃ v, (binOp op t (.int k x) (.int k y)).run P w = .ok v w ∧ Rd w G v r := by
  cases op <;> simp only [intOp, Option.some.injEq, Prod.mk.injEq, reduceCtorEq] at h <;> obtain ⟨h1, rfl⟩ := h
  case quo =>
    rw [hok] at h1
    have h0 : y ≠ 0 := by simpa using h1
    exact ⟨_, by simp only [binOp, Op.intDiv, h0, if_false, ne_eq, not_true_eq_false]; rfl, .int _ _⟩
  case rem =>
    rw [hok] at h1
    have h0 : y ≠ 0 := by simpa using h1
    exact ⟨_, by simp only [binOp, Op.intDiv, h0, if_false, ne_eq, not_true_eq_false]; rfl, .int _ _⟩
  case add => exact ⟨_, by simp only [binOp, Op.intArith, ne_eq, not_true_eq_false, if_false]; rfl, .int _ _⟩
  case sub => exact ⟨_, by simp only [binOp, Op.intArith, ne_eq, not_true_eq_false, if_false]; rfl, .int _ _⟩
  case mul => exact ⟨_, by simp only [binOp, Op.intArith, ne_eq, not_true_eq_false, if_false]; rfl, .int _ _⟩
  case and => exact ⟨_, by simp only [binOp, Op.intBits, ne_eq, not_true_eq_false, if_false]; rfl, .int _ _⟩
  case or => exact ⟨_, by simp only [binOp, Op.intBits, ne_eq, not_true_eq_false, if_false]; rfl, .int _ _⟩
  case xor => exact ⟨_, by simp only [binOp, Op.intBits, ne_eq, not_true_eq_false, if_false]; rfl, .int _ _⟩
  case andNot => exact ⟨_, by simp only [binOp, Op.intBits, ne_eq, not_true_eq_false, if_false]; rfl, .int _ _⟩
  case eql => exact ⟨.bool (x == y), by simp only [binOp, Op.intCmp, ne_eq, not_true_eq_false, if_false]; rfl, by rw [int_beq]; exact .bool _⟩
  case neq => exact ⟨.bool (x != y), by simp only [binOp, Op.intCmp, ne_eq, not_true_eq_false, if_false]; rfl, by rw [bne, int_beq]; exact .bool _⟩
  case lss => exact ⟨.bool (decide (x < y)), by simp only [binOp, Op.intCmp, ne_eq, not_true_eq_false, if_false]; rfl, .bool _⟩
  case leq => exact ⟨.bool (decide (x ≤ y)), by simp only [binOp, Op.intCmp, ne_eq, not_true_eq_false, if_false]; rfl, .bool _⟩
  case gtr => exact ⟨.bool (decide (x > y)), by simp only [binOp, Op.intCmp, ne_eq, not_true_eq_false, if_false]; rfl, .bool _⟩
  case geq => exact ⟨.bool (decide (x ≥ y)), by simp only [binOp, Op.intCmp, ne_eq, not_true_eq_false, if_false]; rfl, .bool _⟩

theorem shOp_run {op : BinOp} {k k' : IntKind} {x y : Int} {r : D} (h : shOp op k x y = some r) (hy : 0 ≤ y) (t : Nat) :
    ∃ v, (binOp op t (.int k x) (.int k' y)).run P w = .ok v w ∧ Rd w G v r := by
  have hn : ¬ y < 0 := by omega
  cases op <;> simp only [shOp, Option.some.injEq, reduceCtorEq] at h <;> subst h
  case shl => exact ⟨_, by simp only [binOp, Op.shift, hn, if_false]; rfl, .int _ _⟩
  case shr => exact ⟨_, by simp only [binOp, Op.shift, hn, if_false]; rfl, .int _ _⟩

theorem shOp_none {op : BinOp} {k : IntKind} {x y : Int} (h : shOp op k x y = none) : op ≠ .shl ∧ op ≠ .shr := by
  cases op <;> simp [shOp] at h ⊢

theorem bytesLess_eq : ∀ a b : List UInt8, Op.bytesLess a b = bytesLess a b
  | _, [] => by simp [Op.bytesLess, bytesLess]
  | [], _ :: _ => by simp [Op.bytesLess, bytesLess]
  | a :: x, b :: y => by
    simp only [Op.bytesLess, bytesLess, bytesLess_eq x y]
    congr 1

theorem beq_list (a b : List UInt8) : (a == b) = decide (a = b) := by
  by_cases h : a = b
  · simp [h]
  · simp [h]

theorem strOp_run {op : BinOp} {x y : ByteArray} {r : D} {ok : Bool} (h : strOp op x.data.toList y.data.toList = some (ok, r)) (hok : ok = true) (t : Nat) :
    ∃ v, (binOp op t (.string x) (.string y)).run P w = .ok v w ∧ Rd w G v r := by
  have hb : ∀ op', binOp op' t (.string x) (.string y) = Op.stringOp op' x y := fun op' => by cases op' <;> rfl
  rw [hb]
  cases op <;> simp only [strOp, Option.some.injEq, Prod.mk.injEq, reduceCtorEq] at h <;> obtain ⟨h1, rfl⟩ := h
  case add =>
    rw [hok] at h1
    have h2 : x.size + y.size ≤ 4611686018427387904 := by simpa [maxStr] using of_decide_eq_true h1
    refine ⟨.string (x ++ y), ?_, .str _ _ (by rw [ByteArray.data_append, Array.toList_append])⟩
    have h3 : ¬ (((x.size + y.size : Nat) : Int) > IntKind.i64.max) := by simp [IntKind.max, IntKind.signed, IntKind.bits]; omega
    simp only [Op.stringOp, h3, if_false]; rfl
  case eql => exact ⟨.bool (x.toList == y.toList), rfl, by rw [ByteArray.toList_eq, ByteArray.toList_eq, beq_list]; exact .bool _⟩
  case neq => exact ⟨.bool (!(x.toList == y.toList)), rfl, by rw [ByteArray.toList_eq, ByteArray.toList_eq, beq_list]; exact .bool _⟩
  case lss => exact ⟨.bool (Op.bytesLess x.toList y.toList), rfl, by rw [ByteArray.toList_eq, ByteArray.toList_eq, bytesLess_eq]; exact .bool _⟩
  case leq => exact ⟨.bool (Op.bytesLess x.toList y.toList || x.toList == y.toList), rfl, by rw [ByteArray.toList_eq, ByteArray.toList_eq, bytesLess_eq, beq_list]; exact .bool _⟩
  case gtr => exact ⟨.bool (!(Op.bytesLess x.toList y.toList || x.toList == y.toList)), rfl, by rw [ByteArray.toList_eq, ByteArray.toList_eq, bytesLess_eq, beq_list]; exact .bool _⟩
  case geq => exact ⟨.bool (!(Op.bytesLess x.toList y.toList)), rfl, by rw [ByteArray.toList_eq, ByteArray.toList_eq, bytesLess_eq]; exact .bool _⟩

theorem eqGuard_scalar {op : BinOp} {t : Nat} {x y : Operand} {u v : Value} (h1 : u.oneCell' = true) (h2 : u ≠ .nilIface) : (eqGuard op t x y u v).run P w = .ok () w := by
  cases u <;> first
    | (simp [Value.oneCell'] at h1; done)
    | (exact absurd rfl h2)
    | (cases op <;> rfl)

theorem sim_bi {d : Nat} {x y : Operand} {x' y' : O} {op : BinOp} {t u t1 t2 : Nat} (p : Pre n0 gl nt w G ρ lam a st) (hod : o.dst = some d) (hdt : d < nt) (hop : o.op = .binOp op t x y u) (hx : opd P t1 x = some x') (hy : opd P t2 y = some y')
    (hs : step (AP P gl) gl (.bi d op x' y') st K) : o.wp P a w (After n0 gl nt w G ρ K) Q := by
  obtain ⟨L1, h1⟩ := ev_any hx p.rel
  obtain ⟨L2, h2⟩ := ev_any hy p.rel
  have fin : ∀ {v : Value} {r : D}, (∀ z, a.eval x = z → z.oneCell' = true ∧ z ≠ .nilIface) → (binOp op t (a.eval x) (a.eval y)).run P w = .ok v w → Rd w G v r → K (st.set d (.d r)) → o.wp P a w (After n0 gl nt w G ρ K) Q := by
    intro v r hz hr hv hK
    refine p.value hod hdt (v := v) ?_ (.of_A (.d _ _ hv)) hK
    have := eqGuard_scalar (P := P) (w := w) (op := op) (t := t) (x := x) (y := y) (v := a.eval y) (hz _ rfl).1 (hz _ rfl).2
    simp only [execOp, hop, Sem.run_bind, this, Result.andThen_ok, hr, Sem.run_pure]
  simp only [step] at hs
  split at hs
  · rename_i k m k' n e1 e2
    rw [e1] at h1; rw [e2] at h2
    have v1 := h1.int
    have v2 := h2.int
    have hz : ∀ z, a.eval x = z → z.oneCell' = true ∧ z ≠ .nilIface := by intro z hz; rw [v1] at hz; subst hz; simp [Value.oneCell']
    split at hs
    · rename_i r hr
      obtain ⟨hp, hK⟩ := hs
      obtain ⟨v, hv1, hv2⟩ := shOp_run (P := P) (w := w) (G := G) (k' := k') hr (by simpa using hp) t
      exact fin hz (by rw [v1, v2]; exact hv1) hv2 hK
    · split at hs
      · rename_i ok r hr
        obtain ⟨hkk, hok, hK⟩ := hs
        obtain rfl : k = k' := by simpa using hkk
        obtain ⟨v, hv1, hv2⟩ := intOp_run (P := P) (w := w) (G := G) hr hok t
        exact fin hz (by rw [v1, v2]; exact hv1) hv2 hK
      · exact hs.elim
  · rename_i m n e1 e2
    rw [e1] at h1; rw [e2] at h2
    obtain ⟨s1, v1, rfl⟩ := h1.str
    obtain ⟨s2, v2, rfl⟩ := h2.str
    have hz : ∀ z, a.eval x = z → z.oneCell' = true ∧ z ≠ .nilIface := by intro z hz; rw [v1] at hz; subst hz; simp [Value.oneCell']
    split at hs
    · rename_i ok r hr
      obtain ⟨hok, hK⟩ := hs
      obtain ⟨v, hv1, hv2⟩ := strOp_run (P := P) (w := w) (G := G) hr hok t
      exact fin hz (by rw [v1, v2]; exact hv1) hv2 hK
    · exact hs.elim
  · exact hs.elim

theorem sim_un {d : Nat} {x : Operand} {x' : O} {op : UnOp} {t t1 : Nat} (p : Pre n0 gl nt w G ρ lam a st) (hod : o.dst = some d) (hdt : d < nt) (hop : o.op = .unOp op t x) (hx : opd P t1 x = some x')
    (hs : step (AP P gl) gl (.un d op x') st K) : o.wp P a w (After n0 gl nt w G ρ K) Q := by
  obtain ⟨L1, h1⟩ := ev_any hx p.rel
  simp only [step] at hs
  split at hs
  · rename_i b e1
    rw [e1] at h1
    have v1 := h1.bool
    exact p.value hod hdt (v := .bool (!b)) (by simp only [execOp, hop, v1, Op.unary]; rfl) (.of_A (.d _ _ (.bool _))) hs
  · rename_i k n e1
    rw [e1] at h1
    have v1 := h1.int
    exact p.value hod hdt (v := .int k (k.wrap (0 - n))) (by simp only [execOp, hop, v1, Op.unary, Op.intArith]; rfl) (.of_A (.d _ _ (.int _ _))) hs
  · rename_i k n e1
    rw [e1] at h1
    have v1 := h1.int
    exact p.value hod hdt (v := .int k (k.wrap (BitVec.ofInt k.bits (if k.signed then -1 else k.max) ^^^ BitVec.ofInt k.bits n).toNat)) (by simp only [execOp, hop, v1, Op.unary, Op.intBits]; rfl) (.of_A (.d _ _ (.int _ _))) hs
  · exact hs.elim

theorem sim_ci {d : Nat} {x : Operand} {x' : O} {s t t1 : Nat} {k k0 : IntKind} (p : Pre n0 gl nt w G ρ lam a st) (hod : o.dst = some d) (hdt : d < nt) (hop : o.op = .convert s t x) (hx : opd P t1 x = some x')
    (hu1 : P.underlying s = some (.int k0)) (hu2 : P.underlying t = some (.int k)) (hs : step (AP P gl) gl (.ci d k x') st K) : o.wp P a w (After n0 gl nt w G ρ K) Q := by
  obtain ⟨L1, h1⟩ := ev_any hx p.rel
  simp only [step] at hs
  split at hs
  · rename_i k1 n e1
    rw [e1] at h1
    have v1 := h1.int
    refine p.value hod hdt (v := .int k (k.wrap n)) ?_ (.of_A (.d _ _ (.int _ _))) hs
    simp only [execOp, hop, v1, convert, Sem.run_bind, underlying_run hu1, underlying_run hu2, Result.andThen_ok]
    rfl
  · exact hs.elim

theorem sim_cs {d : Nat} {x : Operand} {x' : O} {s t t1 : Nat} (p : Pre n0 gl nt w G ρ lam a st) (hod : o.dst = some d) (hdt : d < nt) (hop : o.op = .convert s t x) (hx : opd P t1 x = some x')
    (hu1 : P.underlying s = some .string) (hu2 : P.underlying t = some .string) {l : List UInt8} (he : ev gl st x' = .d (.str l)) (hs : step (AP P gl) gl (.mv d x') st K) : o.wp P a w (After n0 gl nt w G ρ K) Q := by
  obtain ⟨L1, h1⟩ := ev_any hx p.rel
  rw [he] at h1
  obtain ⟨s1, v1, _⟩ := h1.str
  refine p.value hod hdt (v := a.eval x) ?_ (ev_snap hx p.rel) hs
  simp only [execOp, hop, v1, convert, Sem.run_bind, underlying_run hu1, underlying_run hu2, Result.andThen_ok]
  rfl

end
end Go.Vm
end

section
/- Equality, conversions of strings, addresses, slices of slices. Conditions: none. -/
namespace Go.Vm

section
variable {P : Program} {gl : Nat → List D} {n0 nt : Nat} {a : Act} {w w' : World} {G G' : Gh} {ρ ρ' : List Nat} {lam lam' : Nat → Option Nat} {st st' : St} {K : St → Prop} {o : Oper} {Q : Exit → Act → World → Prop}

/-! ### Equality -/

theorem eqK_length : ∀ {ks : List Nat} {xs ys : List D} {r : Bool}, eqK ks xs ys = some r → xs.length = ks.length ∧ ys.length = ks.length
  | [], [], [], _, _ => ⟨rfl, rfl⟩
  | [], [], _ :: _, _, h => by simp [eqK] at h
  | [], _ :: _, _, _, h => by simp [eqK] at h
  | _ :: _, [], _, _, h => by simp [eqK] at h
  | _ :: _, _ :: _, [], _, h => by simp [eqK] at h
  | k :: ks, x :: xs, y :: ys, r, h => by
    have : ∃ r', eqK ks xs ys = some r' := by
      unfold eqK at h
      split at h
      · cases he : eqK ks xs ys <;> simp [he] at h ⊢
      · cases he : eqK ks xs ys with
        | none => rename_i i p j q; rw [he] at h; cases hd : decide (i = j) <;> simp [hd] at h
        | some r' => exact ⟨r', rfl⟩
      · cases he : eqK ks xs ys <;> simp [he] at h ⊢
      · simp at h
    obtain ⟨r', hr⟩ := this
    have := eqK_length hr
    simp [this.1, this.2]

theorem eqK_append : ∀ {k1 k2 : List Nat} {xs ys : List D} {r : Bool}, eqK (k1 ++ k2) xs ys = some r →
    ∃ r1 r2, eqK k1 (xs.take k1.length) (ys.take k1.length) = some r1 ∧ eqK k2 (xs.drop k1.length) (ys.drop k1.length) = some r2 ∧ r = (r1 && r2)
  | [], _, _, _, r, h => ⟨true, r, by simp [eqK], by simpa using h, by simp⟩
  | _ :: _, _, [], _, _, h => by simp [eqK] at h
  | _ :: _, _, _ :: _, [], _, h => by simp [eqK] at h
  | k :: k1, k2, x :: xs, y :: ys, r, h => by
    simp only [List.cons_append, List.length_cons, List.take_succ_cons, List.drop_succ_cons] at h ⊢
    unfold eqK at h
    split at h
    · rename_i p q
      cases he : eqK (k1 ++ k2) xs ys with
      | none => simp [he] at h
      | some r' =>
        obtain ⟨r1, r2, h1, h2, h3⟩ := eqK_append he
        simp only [he, Option.map_some, Option.some.injEq] at h
        exact ⟨(p == q) && r1, r2, by simp [eqK, h1], h2, by rw [← h, h3, Bool.and_assoc]⟩
    · rename_i i p j q
      cases hd : decide (i = j) with
      | false => simp [hd] at h
      | true =>
        cases he : eqK (k1 ++ k2) xs ys with
        | none => simp [hd, he] at h
        | some r' =>
          obtain ⟨r1, r2, h1, h2, h3⟩ := eqK_append he
          simp only [hd, he, cond_true, Option.map_some, Option.some.injEq] at h
          exact ⟨decide (p = q) && r1, r2, by simp [eqK, h1, hd], h2, by rw [← h, h3, Bool.and_assoc]⟩
    · rename_i p q
      cases he : eqK (k1 ++ k2) xs ys with
      | none => simp [he] at h
      | some r' =>
        obtain ⟨r1, r2, h1, h2, h3⟩ := eqK_append he
        simp only [he, Option.map_some, Option.some.injEq] at h
        exact ⟨decide (p = q) && r1, r2, by simp [eqK, h1], h2, by rw [← h, h3, Bool.and_assoc]⟩
    · simp at h

/-- What a value of a type looks like, of its cells. -/
def shaped (P : Program) (t : Nat) (vs : List Value) (v : Value) : Prop := if isStruct P t then v = .agg ⟨vs⟩ else vs = [v]

theorem isAgg_run_struct {t : Nat} {ks : List Nat} {n : Nat} (h : kinds P n t = some ks) (w : World) : (isAgg t).run P w = .ok (isStruct P t) w := by
  cases n with
  | zero => simp [kinds] at h
  | succ n =>
    unfold kinds at h
    unfold isAgg
    cases hu : P.underlying t with
    | none => simp [hu] at h
    | some d =>
      rw [Sem.run_bind, underlying_run hu w]
      simp only [hu] at h
      cases d <;> simp [isStruct, hu] at h ⊢

theorem part_run {t : Nat} {ks : List Nat} {n off : Nat} (h : kinds P n t = some ks) (hsz : szOf P t = some ks.length) (V : Array Value) (hlen : off + ks.length ≤ V.size) (hks : isStruct P t = false → ks.length = 1) (w : World) :
    ∃ v, (part t V off).run P w = .ok v w ∧ shaped P t ((V.toList.drop off).take ks.length) v := by
  unfold part
  rw [Sem.run_bind, isAgg_run_struct h w, Result.andThen_ok]
  cases hs : isStruct P t with
  | true =>
    simp only [if_true, Sem.run_bind, szOf_run hsz, Result.andThen_ok, Sem.run_pure]
    refine ⟨_, rfl, ?_⟩
    simp only [shaped, hs, if_true]
    congr 1
    apply Array.ext'
    simp
  | false =>
    have h1 := hks hs
    have hlt : off < V.size := by omega
    simp only [Bool.false_eq_true, if_false]
    have hg : V[off]? = some V[off] := by simp [hlt]
    rw [hg]
    refine ⟨_, rfl, ?_⟩
    simp only [shaped, hs, Bool.false_eq_true, if_false, h1]
    have : V.toList.drop off = V[off] :: V.toList.drop (off + 1) := by
      rw [List.drop_eq_getElem_cons (by simpa using hlt)]; simp
    rw [this]; simp

theorem kinds_one {n t : Nat} {ks : List Nat} (h : kinds P n t = some ks) (hs : isStruct P t = false) : ks.length = 1 := by
  cases n with
  | zero => simp [kinds] at h
  | succ n =>
    unfold kinds at h
    cases hu : P.underlying t with
    | none => simp [hu] at h
    | some d =>
      simp only [hu] at h
      cases d <;> simp [isStruct, hu] at h hs <;> subst h <;> rfl

theorem eqK_bool {x y : D} {r : Bool} (h : eqK [0] [x] [y] = some r) : ∃ p q, x = .bool p ∧ y = .bool q ∧ r = (p == q) := by
  cases x <;> cases y <;> simp [eqK] at h
  exact ⟨_, _, rfl, rfl, h.symm⟩

theorem eqK_int {x y : D} {r : Bool} (h : eqK [1] [x] [y] = some r) : ∃ k p q, x = .int k p ∧ y = .int k q ∧ r = decide (p = q) := by
  cases x <;> cases y <;> simp [eqK] at h
  rename_i k p k' q
  cases hd : decide (k = k') <;> simp [hd] at h
  obtain rfl : k = k' := by simpa using hd
  exact ⟨_, _, _, rfl, rfl, h.symm⟩

theorem eqK_str {x y : D} {r : Bool} (h : eqK [2] [x] [y] = some r) : ∃ p q, x = .str p ∧ y = .str q ∧ r = decide (p = q) := by
  cases x <;> cases y <;> simp [eqK] at h
  exact ⟨_, _, rfl, rfl, h.symm⟩

theorem RdL.one {v : Value} {xs : List D} (h : RdL w G [v] xs) : ∃ x, xs = [x] ∧ Rd w G v x := by
  cases h with | cons _ x _ _ h1 h2 => cases h2; exact ⟨x, rfl, h1⟩

/-- The fields of a struct, from one place on. -/
theorem eqFields_run (n d : Nat) (ih : ∀ (t : Nat) (ks : List Nat) (vs us : List Value) (xs ys : List D) (v u : Value) (r : Bool), kinds P n t = some ks → RdL w G vs xs → RdL w G us ys → shaped P t vs v → shaped P t us u → eqK ks xs ys = some r →
      (Op.equalIn d t v u).run P w = .ok r w) (V U : Array Value) :
    ∀ (fs : List Field) (off : Nat) (ks : List Nat) (xs ys : List D) (r : Bool), kindsF P (kinds P n) fs off = some ks → RdL w G (V.toList.drop off) xs → RdL w G (U.toList.drop off) ys → off ≤ V.size → off ≤ U.size → eqK ks xs ys = some r →
      (Op.eqFields d V U fs).run P w = .ok r w
  | [], off, ks, xs, ys, r, h, hv, hu, _, _, he => by
    simp only [kindsF, Option.some.injEq] at h; subst h
    obtain ⟨h1, h2⟩ := eqK_length he
    have e1 : xs = [] := by simpa using h1
    have e2 : ys = [] := by simpa using h2
    subst e1; subst e2
    simp only [eqK, Option.some.injEq] at he; subst he
    rfl
  | f :: fs, off, ks, xs, ys, r, h, hv, hu, hV, hU, he => by
    unfold kindsF at h
    split at h
    · rename_i hn
      obtain ⟨hname, hoff⟩ := hn
      cases hk : kinds P n f.type with
      | none => simp [hk] at h
      | some k1 =>
        simp only [hk] at h
        cases hf : kindsF P (kinds P n) fs (off + k1.length) with
        | none => simp [hf] at h
        | some k2 =>
          simp only [hf] at h
          split at h
          · rename_i hsz
            simp only [Option.some.injEq] at h; subst h
            obtain ⟨r1, r2, e1, e2, e3⟩ := eqK_append he
            obtain ⟨l1, l2⟩ := eqK_length he
            have lv := hv.length
            have lu := hu.length
            simp only [List.length_append, List.length_drop, Array.length_toList] at l1 l2 lv lu
            have hV2 : off + k1.length ≤ V.size := by omega
            have hU2 : off + k1.length ≤ U.size := by omega
            obtain ⟨pv, hpv, sv⟩ := part_run hk hsz V hV2 (kinds_one hk) w
            obtain ⟨pu, hpu, su⟩ := part_run hk hsz U hU2 (kinds_one hk) w
            have hr1 := ih f.type k1 _ _ _ _ pv pu r1 hk (hv.take k1.length) (hu.take k1.length) sv su e1
            have hr2 := eqFields_run n d ih V U fs (off + k1.length) k2 (xs.drop k1.length) (ys.drop k1.length) r2 hf
              (by have := hv.drop k1.length; rwa [List.drop_drop] at this) (by have := hu.drop k1.length; rwa [List.drop_drop] at this) hV2 hU2 e2
            unfold Op.eqFields
            rw [if_pos hname, hoff]
            simp only [Sem.run_bind, hpv, Result.andThen_ok, hpu, hr1, Sem.run_ite, Sem.run_pure, hr2]
            cases r1 <;> simp [e3]
          · simp at h
    · simp at h

theorem equalIn_run : ∀ (n d t : Nat) (ks : List Nat) (vs us : List Value) (xs ys : List D) (v u : Value) (r : Bool), kinds P n t = some ks → n ≤ d → RdL w G vs xs → RdL w G us ys → shaped P t vs v → shaped P t us u → eqK ks xs ys = some r →
    (Op.equalIn d t v u).run P w = .ok r w
  | 0, _, _, _, _, _, _, _, _, _, _, h, _, _, _, _, _, _ => by simp [kinds] at h
  | n + 1, 0, _, _, _, _, _, _, _, _, _, _, h, _, _, _, _, _ => absurd h (by omega)
  | n + 1, d + 1, t, ks, vs, us, xs, ys, v, u, r, h, hd, hv, hu, sv, su, he => by
    unfold kinds at h
    cases ht : P.underlying t with
    | none => simp [ht] at h
    | some desc =>
      simp only [ht] at h
      have flat : isStruct P t = false → vs = [v] ∧ us = [u] := fun hs => by
        unfold shaped at sv su
        rw [hs] at sv su
        exact ⟨by simpa using sv, by simpa using su⟩
      cases desc <;> simp only [reduceCtorEq, Option.some.injEq] at h
      case bool =>
        subst h
        obtain ⟨rfl, rfl⟩ := flat (by simp [isStruct, ht])
        obtain ⟨x, rfl, hx⟩ := hv.one
        obtain ⟨y, rfl, hy⟩ := hu.one
        obtain ⟨p, q, rfl, rfl, rfl⟩ := eqK_bool he
        cases hx; cases hy
        exact run_equalIn_bool' w d t _ _ ht
      case int k0 =>
        subst h
        obtain ⟨rfl, rfl⟩ := flat (by simp [isStruct, ht])
        obtain ⟨x, rfl, hx⟩ := hv.one
        obtain ⟨y, rfl, hy⟩ := hu.one
        obtain ⟨k, p, q, rfl, rfl, rfl⟩ := eqK_int he
        cases hx; cases hy
        rw [run_equalIn_int w d t _ _ _ _ ht, int_beq]
      case string =>
        subst h
        obtain ⟨rfl, rfl⟩ := flat (by simp [isStruct, ht])
        obtain ⟨x, rfl, hx⟩ := hv.one
        obtain ⟨y, rfl, hy⟩ := hu.one
        obtain ⟨p, q, rfl, rfl, rfl⟩ := eqK_str he
        cases hx with | str s1 _ h1 => cases hy with | str s2 _ h2 => rw [run_equalIn_string w d t _ _ ht, ByteArray.toList_eq, ByteArray.toList_eq, h1, h2, beq_list]
      case struct fs =>
        have hs : isStruct P t = true := by simp [isStruct, ht]
        unfold shaped at sv su
        rw [if_pos hs] at sv su
        subst sv
        subst su
        split at h
        · rename_i hst
          have hfo : P.fieldsOf t = fs := by simp [Program.fieldsOf, ht]
          rw [run_equalIn_struct w d t _ _ (by rw [hfo]; exact ht) hst, hfo]
          exact eqFields_run n d (fun t ks vs us xs ys v u r h1 h2 h3 h4 h5 h6 => equalIn_run n d t ks vs us xs ys v u r h1 (by omega) h2 h3 h4 h5 h6) ⟨vs⟩ ⟨us⟩ fs.toList 0 ks xs ys r h (by simpa using hv) (by simpa using hu) (by simp) (by simp) he
        · simp at h

end
end Go.Vm
end

section
/- Equality at an operation; strings and bytes; addresses; parts of slices. Conditions: none. -/
namespace Go.Vm

section
variable {P : Program} {gl : Nat → List D} {n0 nt : Nat} {a : Act} {w w' : World} {G G' : Gh} {ρ ρ' : List Nat} {lam lam' : Nat → Option Nat} {st st' : St} {K : St → Prop} {o : Oper} {Q : Exit → Act → World → Prop}

theorem Rd.cells {v : Value} {d : D} {ag : Bool} (h : Rd w G v d) (ha : isAg ag d = true) : ∃ vs, RdL w G vs d.cells ∧ (if ag then v = .agg ⟨vs⟩ else vs = [v]) ∧ (ag = false → ∀ cs, d ≠ .agg cs) := by
  cases ag with
  | true =>
    cases d <;> simp [isAg] at ha
    cases h with | agg vs cs h => exact ⟨vs, h, by simp, by simp⟩
  | false =>
    have hn : ∀ cs, d ≠ .agg cs := by rintro cs rfl; simp [isAg] at ha
    refine ⟨[v], ?_, by simp, fun _ => hn⟩
    have : d.cells = [d] := by cases d <;> first | rfl | exact absurd rfl (hn _)
    rw [this]; exact .cons _ _ _ _ h .nil

theorem equal_run {t : Nat} {ks : List Nat} {ag : Bool} {u v : Value} {x y : D} {r : Bool} (hk : kinds P 10 t = some ks) (hag : isStruct P t = ag) (hx : Rd w G u x) (hy : Rd w G v y) (a1 : isAg ag x = true) (a2 : isAg ag y = true)
    (he : eqK ks x.cells y.cells = some r) : (Op.equal t u v).run P w = .ok r w := by
  obtain ⟨vs, h1, h2, _⟩ := hx.cells a1
  obtain ⟨us, h3, h4, _⟩ := hy.cells a2
  unfold Op.equal
  exact equalIn_run 10 Op.maxDepth t ks vs us x.cells y.cells u v r hk (by decide) h1 h3 (by unfold shaped; rw [hag]; exact h2) (by unfold shaped; rw [hag]; exact h4) he

theorem sim_eq {d : Nat} {x y : Operand} {x' y' : O} {t u t1 t2 : Nat} {neg ag : Bool} {ks : List Nat} (p : Pre n0 gl nt w G ρ lam a st) (hod : o.dst = some d) (hdt : d < nt)
    (hop : o.op = .binOp (if neg then .neq else .eql) t x y u) (hx : opd P t1 x = some x') (hy : opd P t2 y = some y')
    (hk : kinds P 10 t = some ks) (hag : isStruct P t = ag) (hg : ag = true → P.eqGuardType P.depth t = false) (hb : ag = false → P.underlying t = some .bool)
    (hs : step (AP P gl) gl (.eq d neg ag ks x' y') st K) : o.wp P a w (After n0 gl nt w G ρ K) Q := by
  obtain ⟨L1, h1⟩ := ev_any hx p.rel
  obtain ⟨L2, h2⟩ := ev_any hy p.rel
  simp only [step] at hs
  split at hs
  · rename_i m n e1 e2
    obtain ⟨ha, hs⟩ := hs
    simp only [Bool.and_eq_true] at ha
    split at hs
    · rename_i r he
      have r1 := h1.toD e1
      have r2 := h2.toD e2
      have hr := equal_run (P := P) hk hag r1 r2 ha.1 ha.2 he
      refine p.value hod hdt (v := .bool (cond neg (!r) r)) ?_ (.of_A (.d _ _ (.bool _))) hs
      have hgu : (eqGuard (if neg then .neq else .eql) t x y (a.eval x) (a.eval y)).run P w = .ok () w := by
        cases hag' : ag with
        | true =>
          obtain ⟨vs, _, q1, _⟩ := r1.cells ha.1
          obtain ⟨us, _, q2, _⟩ := r2.cells ha.2
          rw [hag'] at q1 q2
          simp only [if_true] at q1 q2
          rw [q1, q2]
          unfold eqGuard
          cases neg <;> simp [Sem.run_bind, hg hag']
        | false =>
          have hbool := hb hag'
          have : ks = [0] := by
            have := hk
            unfold kinds at this
            simp only [hbool, Option.some.injEq] at this
            exact this.symm
          rw [this] at he
          have hm : m.cells = [m] := by
            rw [hag'] at ha
            cases m <;> first | rfl | simp [isAg] at ha
          have hn : n.cells = [n] := by
            rw [hag'] at ha
            cases n <;> first | rfl | simp [isAg] at ha
          rw [hm, hn] at he
          obtain ⟨b1, b2, rfl, rfl, _⟩ := eqK_bool he
          cases r1' : a.eval x <;> rw [r1'] at r1 <;> cases r1
          exact eqGuard_scalar rfl (by simp)
      have hbin : (binOp (if neg then .neq else .eql) t (a.eval x) (a.eval y)).run P w = .ok (.bool (cond neg (!r) r)) w := by
        have key : binOp .eql t (a.eval x) (a.eval y) = (Op.equal t (a.eval x) (a.eval y) >>= fun b => pure (.bool b)) ∧ binOp .neq t (a.eval x) (a.eval y) = (Op.equal t (a.eval x) (a.eval y) >>= fun b => pure (.bool (!b))) := by
          cases hag' : ag with
          | true =>
            obtain ⟨vs, _, q1, _⟩ := r1.cells ha.1
            obtain ⟨us, _, q2, _⟩ := r2.cells ha.2
            rw [hag'] at q1 q2
            simp only [if_true] at q1 q2
            rw [q1, q2]
            exact ⟨rfl, rfl⟩
          | false =>
            have hbool := hb hag'
            have : ks = [0] := by
              have := hk
              unfold kinds at this
              simp only [hbool, Option.some.injEq] at this
              exact this.symm
            rw [this] at he
            have hm : m.cells = [m] := by
              rw [hag'] at ha
              cases m <;> first | rfl | simp [isAg] at ha
            have hn : n.cells = [n] := by
              rw [hag'] at ha
              cases n <;> first | rfl | simp [isAg] at ha
            rw [hm, hn] at he
            obtain ⟨b1, b2, rfl, rfl, _⟩ := eqK_bool he
            cases r1' : a.eval x <;> rw [r1'] at r1 <;> cases r1
            cases r2' : a.eval y <;> rw [r2'] at r2 <;> cases r2
            exact ⟨rfl, rfl⟩
        cases neg
        · simp only [Bool.false_eq_true, if_false]
          rw [key.1]
          simp [hr]
        · simp only [if_true]
          rw [key.2]
          simp [hr]
      simp only [execOp, hop, Sem.run_bind, hgu, Result.andThen_ok, hbin, Sem.run_pure]
    · exact hs.elim
  · exact hs.elim

/-! ### Strings -/

theorem sim_ix {d : Nat} {x i : Operand} {x' i' : O} {t t1 t2 : Nat} (p : Pre n0 gl nt w G ρ lam a st) (hod : o.dst = some d) (hdt : d < nt) (hop : o.op = .index t x i) (hx : opd P t1 x = some x') (hi : opd P t2 i = some i')
    (hu : P.underlying t = some .string) (hs : step (AP P gl) gl (.ix d x' i') st K) : o.wp P a w (After n0 gl nt w G ρ K) Q := by
  obtain ⟨L1, h1⟩ := ev_any hx p.rel
  obtain ⟨L2, h2⟩ := ev_any hi p.rel
  simp only [step] at hs
  split at hs
  · rename_i s k n e1 e2
    rw [e1] at h1; rw [e2] at h2
    obtain ⟨s1, v1, rfl⟩ := h1.str
    have v2 := h2.int
    obtain ⟨hb, hs⟩ := hs
    simp only [Bool.and_eq_true, decide_eq_true_eq, Array.length_toList] at hb
    obtain ⟨hb1, hb2⟩ := hb
    have hlt : n.toNat < s1.size := by show n.toNat < s1.data.size; omega
    have hg : s1[n.toNat]? = some s1[n.toNat] := by simp [hlt]
    have hd : s1.data.toList.getD n.toNat 0 = s1[n.toNat] := by
      have : n.toNat < s1.data.toList.length := by simpa using hlt
      rw [List.getD_eq_getElem?_getD, List.getElem?_eq_getElem this]
      rfl
    refine p.value hod hdt (v := .int .u8 s1[n.toNat].toNat) ?_ (.of_A (.d _ _ (by rw [hd]; exact .int _ _))) hs
    simp only [execOp, hop, v1, v2, Instr.index, asIntOf, Sem.run_bind, Sem.run_pure, Result.andThen_ok, underlying_run hu, if_pos hb1, hg]
  · exact hs.elim

def BoundIs (v : Option Value) (dflt n : Nat) : Prop := (v = none ∧ n = dflt) ∨ ∃ k, v = some (.int k (n : Int))

theorem sliceBounds_run {isSlice : Bool} {len cap l h m : Nat} {lo hi mx : Option Value} (hl : BoundIs lo 0 l) (hh : BoundIs hi len h) (hm : BoundIs mx cap m) (h1 : l ≤ h) (h2 : h ≤ m) (h3 : m ≤ cap) (hx : hi = none → mx = none) :
    (Instr.sliceBounds isSlice len cap lo hi mx).run P w = .ok (l, h, m) w := by
  have sb : ∀ (k : IntKind) (n y : Nat) (c : BoundsCode), n ≤ y → (Instr.sliceBound (.int k (n : Int)) y c).run P w = .ok n w := by
    intro k n y c hn
    have h0 : 0 ≤ (n : Int) ∧ (n : Int) ≤ (y : Int) := ⟨by omega, by omega⟩
    simp [Instr.sliceBound, asIntOf, h0]
  unfold Instr.sliceBounds
  rcases hm with ⟨rfl, rfl⟩ | ⟨k1, rfl⟩
  · rcases hh with ⟨rfl, rfl⟩ | ⟨k2, rfl⟩
    · rcases hl with ⟨rfl, rfl⟩ | ⟨k3, rfl⟩
      · simp
      · simp [sb k3 l h _ h1]
    · rcases hl with ⟨rfl, rfl⟩ | ⟨k3, rfl⟩
      · simp [sb k2 h m _ h2]
      · simp [Sem.run_bind, sb k2 h m _ h2, sb k3 l h _ h1]
  · rcases hh with ⟨rfl, rfl⟩ | ⟨k2, rfl⟩
    · simp at hx
    · rcases hl with ⟨rfl, rfl⟩ | ⟨k3, rfl⟩
      · simp [Sem.run_bind, sb k1 m cap _ h3, sb k2 h m _ h2]
      · simp [Sem.run_bind, sb k1 m cap _ h3, sb k2 h m _ h2, sb k3 l h _ h1]

theorem bound_is {z : Option Operand} {z' : Option O} {dflt n : Int} (p : Pre n0 gl nt w G ρ lam a st) (hz : opdO P 0 z = some z') (hz' : bound gl st dflt z' = some n) (hn : 0 ≤ n) : BoundIs (z.map a.eval) dflt.toNat n.toNat := by
  cases z with
  | none => simp only [opdO, Option.some.injEq] at hz; subst hz; simp only [bound, Option.some.injEq] at hz'; exact .inl ⟨rfl, by rw [hz']⟩
  | some q =>
    simp only [opdO, Option.map_eq_some_iff] at hz
    obtain ⟨q', hq, rfl⟩ := hz
    obtain ⟨L, hr⟩ := ev_any hq p.rel
    simp only [bound] at hz'
    split at hz'
    · rename_i k n' e
      simp only [Option.some.injEq] at hz'; subst hz'
      rw [e] at hr
      exact .inr ⟨k, by simp [hr.int, Int.toNat_of_nonneg hn]⟩
    · simp at hz'

theorem sim_ss {d : Nat} {x : Operand} {x' : O} {lo hi : Option Operand} {lo' hi' : Option O} {t t1 : Nat} (p : Pre n0 gl nt w G ρ lam a st) (hod : o.dst = some d) (hdt : d < nt) (hop : o.op = .slice t x lo hi none) (hx : opd P t1 x = some x')
    (hl : opdO P 0 lo = some lo') (hh : opdO P 0 hi = some hi')
    (hu : P.underlying t = some .string) (hs : step (AP P gl) gl (.ss d x' lo' hi') st K) : o.wp P a w (After n0 gl nt w G ρ K) Q := by
  obtain ⟨L1, h1⟩ := ev_any hx p.rel
  simp only [step] at hs
  split at hs
  · rename_i s e1
    rw [e1] at h1
    obtain ⟨s1, v1, rfl⟩ := h1.str
    split at hs
    · rename_i l h el eh
      obtain ⟨hb, hs⟩ := hs
      simp only [Bool.and_eq_true, decide_eq_true_eq, Array.length_toList] at hb
      obtain ⟨⟨hb1, hb2⟩, hb3⟩ := hb
      have hlow := bound_is p hl el hb1
      have hhigh := bound_is p hh eh (by omega)
      simp only [Int.toNat_zero, Int.toNat_natCast, Array.length_toList] at hlow hhigh
      have hsb := sliceBounds_run (P := P) (w := w) (isSlice := false) (cap := s1.size) (m := s1.size) (mx := none) hlow (show BoundIs _ s1.size _ from hhigh) (.inl ⟨rfl, rfl⟩) (by omega) (by show h.toNat ≤ s1.data.size; omega) (Nat.le_refl _) (fun _ => rfl)
      refine p.value hod hdt (v := .string (s1.extract l.toNat h.toNat)) ?_ (.of_A (.d _ _ (.str _ _ (Lib.extract_data _ _ _)))) hs
      simp only [execOp, hop, v1, Instr.sliceAt, Instr.slice, Sem.run_bind, underlying_run hu, Result.andThen_ok, Option.map_none, Option.isSome_none, Bool.false_eq_true, if_false, hsb, Sem.run_pure]
    · exact hs.elim
  · exact hs.elim

/-! ### Slices that are read -/

theorem RelT.listS {v : Value} {x : Val} {sz : Nat} {l : List D} {L : Loc} (h : RelT w G ρ lam L v x) (hl : listS x = some (sz, l)) : Rd w G v (.list sz l) := by
  have hs := h.snap (L' := L)
  unfold Vm.listS at hl
  split at hl
  · simp only [Option.some.injEq, Prod.mk.injEq] at hl
    obtain ⟨rfl, rfl⟩ := hl
    exact hs.dat
  · simp only [Option.some.injEq, Prod.mk.injEq] at hl
    obtain ⟨rfl, rfl⟩ := hl
    exact hs.dat
  · simp at hl

theorem Rd.slice {v : Value} {sz : Nat} {l : List D} (h : Rd w G v (.list sz l)) : ∃ ad cap, v = .slice ad l.length cap ∧ l.length ≤ cap ∧ (l ≠ [] → ∃ b off vs, ad = some ⟨b, off, none⟩ ∧ (∀ d, d ∈ l → d.cells.length = sz) ∧ CellsAt w G b off vs ∧ RdL w G vs (l.flatMap D.cells)) := by
  cases h with
  | list0 ad cap _ => exact ⟨ad, cap, rfl, Nat.zero_le _, by simp⟩
  | list b off n cap _ _ vs h1 h2 h3 h4 h5 => subst h1; exact ⟨_, cap, rfl, h2, fun _ => ⟨b, off, vs, rfl, h3, h4, h5⟩⟩

theorem flatMap_len {sz : Nat} : ∀ {l : List D}, (∀ d, d ∈ l → d.cells.length = sz) → (l.flatMap D.cells).length = l.length * sz
  | [], _ => by simp
  | d :: l, h => by
    simp only [List.flatMap_cons, List.length_append, List.length_cons, h d (by simp), flatMap_len (l := l) (fun x hx => h x (by simp [hx]))]
    rw [Nat.add_mul]; omega

/-- One element's cells, among all. -/
theorem flatMap_elem {sz : Nat} : ∀ {l : List D} {i : Nat} {d : D}, (∀ d, d ∈ l → d.cells.length = sz) → l[i]? = some d → ((l.flatMap D.cells).drop (i * sz)).take sz = d.cells
  | [], i, d, _, h => by simp at h
  | x :: l, 0, d, hs, h => by
    simp only [List.getElem?_cons_zero, Option.some.injEq] at h
    subst h
    simp only [Nat.zero_mul, List.drop_zero, List.flatMap_cons]
    rw [List.take_append_of_le_length (by rw [hs x (by simp)]; exact Nat.le_refl _), List.take_of_length_le (by rw [hs x (by simp)]; exact Nat.le_refl _)]
  | x :: l, i + 1, d, hs, h => by
    simp only [List.getElem?_cons_succ] at h
    have hx := hs x (by simp)
    simp only [List.flatMap_cons]
    rw [show (i + 1) * sz = x.cells.length + i * sz by rw [hx, Nat.add_mul]; omega, List.drop_append]
    simp only [show x.cells.length + i * sz - x.cells.length = i * sz by omega]
    rw [List.drop_eq_nil_of_le (by omega), List.nil_append]
    exact flatMap_elem (fun d hd => hs d (by simp [hd])) h

theorem CellsAt.sub {b off : Nat} {vs : List Value} (h : CellsAt w G b off vs) (k n : Nat) : CellsAt w G b (off + k) ((vs.drop k).take n) := by
  intro j v hv
  rw [List.getElem?_take] at hv
  split at hv
  · rw [List.getElem?_drop] at hv
    have := h (k + j) v hv
    rwa [← Nat.add_assoc] at this
  · simp at hv

theorem sim_ia_list {d : Nat} {x i : Operand} {x' i' : O} {t e sz t1 t2 : Nat} (p : Pre n0 gl nt w G ρ lam a st) (hod : o.dst = some d) (hdt : d < nt) (hop : o.op = .indexAddr t x i) (hx : opd P t1 x = some x') (hi : opd P t2 i = some i')
    (hu : P.underlying t = some (.slice e)) (hz : szOf P e = some sz) (hpos : 0 < sz) (hs : step (AP P gl) gl (.ia d x' i' sz) st K) : o.wp P a w (After n0 gl nt w G ρ K) Q := by
  obtain ⟨L1, h1⟩ := ev_any hx p.rel
  obtain ⟨L2, h2⟩ := ev_any hi p.rel
  simp only [step] at hs
  split at hs
  · rename_i k n e2
    rw [e2] at h2
    have v2 := h2.int
    split at hs
    · rename_i j off len cap sz' e1
      rw [e1] at h1
      obtain ⟨hb, hs⟩ := hs
      simp only [Bool.and_eq_true, decide_eq_true_eq] at hb
      obtain ⟨⟨hb1, hb2⟩, hb3⟩ := hb
      have h1' : RelA w G ρ (a.eval x) (.sl j off len cap sz') := h1
      cases hv1 : a.eval x <;> rw [hv1] at h1' <;> cases h1'
      rename_i b hb hc hsz
      refine p.value hod hdt (v := .pointer (some ⟨b, off + n.toNat * sz, none⟩)) ?_ (.of_A (.ptr _ _ _ hb)) hs
      simp only [execOp, hop, hv1, v2, Instr.indexAt, asIntOf, Sem.run_bind, Sem.run_pure, Result.andThen_ok, underlying_run hu, if_pos (And.intro hb2 hb3), szOf_run hz, Addr.add_mid]
    · split at hs
      · rename_i sz' l hl
        obtain ⟨hb, hs⟩ := hs
        simp only [Bool.and_eq_true, decide_eq_true_eq] at hb
        obtain ⟨⟨hb1, hb2⟩, hb3⟩ := hb
        obtain rfl : sz' = sz := Nat.eq_of_beq_eq_true hb1
        have hrd := h1.listS hl
        obtain ⟨ad, cap, v1, hcap, hrest⟩ := hrd.slice
        have hne' : l ≠ [] := by rintro rfl; simp at hb3; omega
        obtain ⟨b, off, vs, rfl, hw, hc, hr⟩ := hrest hne'
        have hlt : n.toNat < l.length := by omega
        have hget : l[n.toNat]? = some (l.getD n.toNat .nilp) := by rw [List.getD_eq_getElem?_getD, List.getElem?_eq_getElem hlt]; rfl
        have hcells := flatMap_elem hw hget
        refine p.value hod hdt (v := .pointer (some ⟨b, off + n.toNat * sz', none⟩)) ?_ (.of_A (.d _ _ ?_)) hs
        · simp only [execOp, hop, v1, v2, Instr.indexAt, asIntOf, Sem.run_bind, Sem.run_pure, Result.andThen_ok, underlying_run hu, if_pos (And.intro hb2 hb3), szOf_run hz, Addr.add_mid]
        · have := Rd.iptr (w := w) (G := G) b (off + n.toNat * sz') 0 ((vs.drop (n.toNat * sz')).take sz') _ (hc.sub _ _) ((hr.drop (n.toNat * sz')).take sz')
          rw [hcells] at this
          exact this
      · exact hs.elim
  · exact hs.elim

end
end Go.Vm
end

section
/- More operations on values. Conditions: none. -/
namespace Go.Vm

section
variable {P : Program} {gl : Nat → List D} {n0 nt : Nat} {a : Act} {w w' : World} {G G' : Gh} {ρ ρ' : List Nat} {lam lam' : Nat → Option Nat} {st st' : St} {K : St → Prop} {o : Oper} {Q : Exit → Act → World → Prop}

theorem flatMap_drop {sz : Nat} : ∀ (n : Nat) {q : List D}, (∀ d, d ∈ q → d.cells.length = sz) → (q.drop n).flatMap D.cells = (q.flatMap D.cells).drop (n * sz)
  | 0, _, _ => by simp
  | n + 1, [], _ => by simp
  | n + 1, d :: q, h => by
    have hx := h d (by simp)
    rw [List.drop_succ_cons, flatMap_drop n (fun x hx => h x (by simp [hx])), List.flatMap_cons, show (n + 1) * sz = d.cells.length + n * sz by rw [hx, Nat.add_mul]; omega, List.drop_append]
    simp only [show d.cells.length + n * sz - d.cells.length = n * sz by omega]
    rw [List.drop_eq_nil_of_le (show d.cells.length ≤ d.cells.length + n * sz by omega), List.nil_append]

theorem flatMap_take {sz : Nat} : ∀ (n : Nat) {q : List D}, (∀ d, d ∈ q → d.cells.length = sz) → (q.take n).flatMap D.cells = (q.flatMap D.cells).take (n * sz)
  | 0, _, _ => by simp
  | n + 1, [], _ => by simp
  | n + 1, d :: q, h => by
    have hx := h d (by simp)
    rw [List.take_succ_cons, List.flatMap_cons, flatMap_take n (fun x hx => h x (by simp [hx])), List.flatMap_cons, show (n + 1) * sz = d.cells.length + n * sz by rw [hx, Nat.add_mul]; omega, List.take_append]
    simp only [show d.cells.length + n * sz - d.cells.length = n * sz by omega]
    rw [List.take_of_length_le (show d.cells.length ≤ d.cells.length + n * sz by omega)]

theorem sim_sl {d : Nat} {x : Operand} {x' : O} {lo hi mx : Option Operand} {lo' hi' mx' : Option O} {t t1 e sz0 : Nat} (p : Pre n0 gl nt w G ρ lam a st) (hod : o.dst = some d) (hdt : d < nt) (hop : o.op = .slice t x lo hi mx) (hx : opd P t1 x = some x')
    (hl : opdO P 0 lo = some lo') (hh : opdO P 0 hi = some hi') (hm : opdO P 0 mx = some mx') (hmh : hi = none → mx = none)
    (hu : P.underlying t = some (.slice e)) (hz : szOf P e = some sz0) (hs : step (AP P gl) gl (.sl d sz0 x' lo' hi' mx') st K) : o.wp P a w (After n0 gl nt w G ρ K) Q := by
  obtain ⟨L1, h1⟩ := ev_any hx p.rel
  simp only [step] at hs
  split at hs
  · rename_i j off len cap0 sz e1
    rw [e1] at h1
    split at hs
    · rename_i l h m el eh em
      obtain ⟨hb, hs⟩ := hs
      simp only [Bool.and_eq_true, decide_eq_true_eq] at hb
      obtain ⟨⟨⟨⟨hb0, hb1⟩, hb2⟩, hb3⟩, hb4⟩ := hb
      obtain rfl : sz = sz0 := Nat.eq_of_beq_eq_true hb0
      have h1' : RelA w G ρ (a.eval x) (.sl j off len cap0 sz) := h1
      generalize hv1 : a.eval x = v1 at h1'
      cases h1' with
      | sl _ _ _ _ cap _ b hρ hcap hSz =>
        have hlow := bound_is p hl el hb1
        have hhigh := bound_is p hh eh (by omega)
        have hmax := bound_is p hm em (by omega)
        simp only [Int.toNat_zero, Int.toNat_natCast] at hlow hhigh hmax
        obtain ⟨m2, hm2, hle, hcapm, hmm⟩ : ∃ m2, BoundIs (mx.map a.eval) cap m2 ∧ h.toNat ≤ m2 ∧ m2 ≤ cap ∧ m.toNat ≤ m2 := by
          rcases hmax with ⟨h0, h1⟩ | ⟨k, hk⟩
          · exact ⟨cap, .inl ⟨h0, rfl⟩, by omega, Nat.le_refl _, by omega⟩
          · exact ⟨m.toNat, .inr ⟨k, hk⟩, by omega, by omega, Nat.le_refl _⟩
        have hsb := sliceBounds_run (P := P) (w := w) (isSlice := true) (cap := cap) hlow hhigh hm2 (by omega) hle hcapm (by intro h0; cases hi with | none => rw [hmh rfl]; rfl | some q => simp at h0)
        refine p.value hod hdt (v := .slice (if m2 = l.toNat then some ⟨b, off, none⟩ else some ((⟨b, off, none⟩ : Addr).add (l.toNat * sz))) (h.toNat - l.toNat) (m2 - l.toNat)) ?_ (.of_A ?_) hs
        · simp only [execOp, hop, hv1, Instr.sliceAt, Instr.slice, Sem.run_bind, underlying_run hu, Result.andThen_ok, hsb, Sem.run_pure, szOf_run hz]
          rfl
        · by_cases hlm : l = m
          · subst hlm
            simp only [decide_true, cond_true]
            have : h.toNat - l.toNat = 0 := by omega
            rw [this]
            exact .d _ _ (.list0 _ _ _)
          · simp only [hlm, decide_false, cond_false]
            rw [if_neg (by omega)]
            simp only [Addr.add_mid]
            refine .sl _ _ _ _ _ _ _ hρ (by omega) ?_
            obtain ⟨c, E, fz, z1, z2⟩ := hSz
            refine ⟨c, E, fz, z1, Nat.le_trans ?_ z2⟩
            have : m2 * sz ≤ cap * sz := Nat.mul_le_mul_right _ hcapm
            rw [Nat.sub_mul]
            have : l.toNat * sz ≤ m2 * sz := Nat.mul_le_mul_right _ (by omega)
            omega
    · exact hs.elim
  · rename_i hnsl
    revert hs
    intro hs
    split at hs
    · rename_i sz s e1
      split at hs
      · rename_i l h m el eh em
        obtain ⟨hb, hs⟩ := hs
        simp only [Bool.and_eq_true, decide_eq_true_eq] at hb
        obtain ⟨⟨⟨⟨hb0, hb1⟩, hb2⟩, hb3⟩, hb4⟩ := hb
        obtain rfl : sz = sz0 := Nat.eq_of_beq_eq_true hb0
        have hrd := h1.listS e1
        obtain ⟨ad, cap, v1, hcap, hrest⟩ := hrd.slice
        have hlow := bound_is p hl el hb1
        have hhigh := bound_is p hh eh (by omega)
        have hmax := bound_is p hm em (by omega)
        simp only [Int.toNat_zero, Int.toNat_natCast] at hlow hhigh hmax
        -- where no maximum is told the capacity is what it is
        obtain ⟨m2, hm2, hle, hcapm⟩ : ∃ m2, BoundIs (mx.map a.eval) cap m2 ∧ h.toNat ≤ m2 ∧ m2 ≤ cap := by
          rcases hmax with ⟨h0, h1⟩ | ⟨k, hk⟩
          · exact ⟨cap, .inl ⟨h0, rfl⟩, by omega, Nat.le_refl _⟩
          · exact ⟨m.toNat, .inr ⟨k, hk⟩, by omega, by omega⟩
        have hsb := sliceBounds_run (P := P) (w := w) (isSlice := true) (cap := cap) hlow hhigh hm2 (by omega) hle hcapm (by intro h0; cases hi with | none => rw [hmh rfl]; rfl | some q => simp at h0)
        have hval : Rd w G (.slice (if m2 = l.toNat then ad else ad.map (·.add (l.toNat * sz))) (h.toNat - l.toNat) (m2 - l.toNat)) (.list sz ((s.drop l.toNat).take (h.toNat - l.toNat))) := by
          by_cases hlen : h.toNat - l.toNat = 0
          · rw [hlen, List.take_zero]; exact .list0 _ _ _
          · have hne : s ≠ [] := by rintro rfl; simp at hb4; omega
            obtain ⟨b, off, vs, rfl, hw, hc, hr⟩ := hrest hne
            have hm2l : m2 ≠ l.toNat := by omega
            rw [if_neg hm2l]
            simp only [Option.map_some, Addr.add_mid]
            have hfl : ((s.drop l.toNat).take (h.toNat - l.toNat)).flatMap D.cells = ((s.flatMap D.cells).drop (l.toNat * sz)).take ((h.toNat - l.toNat) * sz) := by
              rw [flatMap_take _ (fun d hd => hw d (List.mem_of_mem_drop hd)), flatMap_drop _ hw]
            refine .list b (off + l.toNat * sz) _ _ sz _ ((vs.drop (l.toNat * sz)).take ((h.toNat - l.toNat) * sz)) ?_ (by omega) ?_ (hc.sub _ _) ?_
            · rw [List.length_take, List.length_drop]; omega
            · intro d hd; exact hw d (List.mem_of_mem_drop (List.mem_of_mem_take hd))
            · rw [hfl]; exact (hr.drop _).take _
        refine p.value hod hdt (v := .slice (if m2 = l.toNat then ad else ad.map (·.add (l.toNat * sz))) (h.toNat - l.toNat) (m2 - l.toNat)) ?_ (.of_A (.d _ _ hval)) hs
        simp only [execOp, hop, v1, Instr.sliceAt, Instr.slice, Sem.run_bind, underlying_run hu, Result.andThen_ok, hsb, Sem.run_pure, szOf_run hz]
      · exact hs.elim
    · exact hs.elim

theorem sim_em {d : Nat} {x : Operand} {x' : O} {hi mx : Operand} {t t1 e sz0 : Nat} (p : Pre n0 gl nt w G ρ lam a st) (hod : o.dst = some d) (hdt : d < nt) (hop : o.op = .slice t x none (some hi) (some mx)) (hx : opd P t1 x = some x')
    (hh : ∃ k, a.eval hi = .int k 0) (hm : ∃ k, a.eval mx = .int k 0)
    (hu : P.underlying t = some (.slice e)) (hz : szOf P e = some sz0) (hs : step (AP P gl) gl (.em d x') st K) : o.wp P a w (After n0 gl nt w G ρ K) Q := by
  obtain ⟨L1, h1⟩ := ev_any hx p.rel
  simp only [step] at hs
  split at hs
  · rename_i j off len cap0 sz e1
    rw [e1] at h1
    have h1' : RelA w G ρ (a.eval x) (.sl j off len cap0 sz) := h1
    generalize hv1 : a.eval x = v1 at h1'
    cases h1' with
    | sl _ _ _ _ cap _ b hρ hcap hSz =>
      obtain ⟨k1, hk1⟩ := hh
      obtain ⟨k2, hk2⟩ := hm
      have hsb := sliceBounds_run (P := P) (w := w) (isSlice := true) (len := len) (cap := cap) (lo := none) (hi := some (a.eval hi)) (mx := some (a.eval mx)) (l := 0) (h := 0) (m := 0) (.inl ⟨rfl, rfl⟩) (.inr ⟨k1, by rw [hk1]; rfl⟩) (.inr ⟨k2, by rw [hk2]; rfl⟩) (Nat.le_refl _) (Nat.le_refl _) (Nat.zero_le _) (by simp)
      refine p.value hod hdt (v := .slice (some ⟨b, off, none⟩) 0 0) ?_ (.of_A (.nil _ _)) hs
      simp only [execOp, hop, hv1, Instr.sliceAt, Instr.slice, Sem.run_bind, underlying_run hu, Result.andThen_ok, Option.map_none, Option.map_some, hsb, Sem.run_pure, szOf_run hz, if_true, Nat.sub_self]
  · rename_i hnsl
    split at hs
    · rename_i sz s e1
      have hrd := h1.listS e1
      obtain ⟨ad, cap, v1, hcap, hrest⟩ := hrd.slice
      obtain ⟨k1, hk1⟩ := hh
      obtain ⟨k2, hk2⟩ := hm
      have hsb := sliceBounds_run (P := P) (w := w) (isSlice := true) (len := s.length) (cap := cap) (lo := none) (hi := some (a.eval hi)) (mx := some (a.eval mx)) (l := 0) (h := 0) (m := 0) (.inl ⟨rfl, rfl⟩) (.inr ⟨k1, by rw [hk1]; rfl⟩) (.inr ⟨k2, by rw [hk2]; rfl⟩) (Nat.le_refl _) (Nat.le_refl _) (Nat.zero_le _) (by simp)
      refine p.value hod hdt (v := .slice ad 0 0) ?_ (.of_A (.nil _ _)) hs
      simp only [execOp, hop, v1, Instr.sliceAt, Instr.slice, Sem.run_bind, underlying_run hu, Result.andThen_ok, Option.map_none, Option.map_some, hsb, Sem.run_pure, szOf_run hz, if_true, Nat.sub_self]
    · exact hs.elim

theorem sim_ln {d : Nat} {x : Operand} {x' : O} {t t1 : Nat} {str : Bool} (p : Pre n0 gl nt w G ρ lam a st) (hod : o.dst = some d) (hdt : d < nt) (hop : o.op = .call { callee := .builtin .len, args := #[x], argTypes := #[t] }) (hx : opd P t1 x = some x')
    (hu : if str then P.underlying t = some .string else ∃ e, P.underlying t = some (.slice e)) (hs : step (AP P gl) gl (.ln d str x') st K) : o.wp P a w (After n0 gl nt w G ρ K) Q := by
  obtain ⟨L1, h1⟩ := ev_any hx p.rel
  have hexec : ∀ n : Nat, (Builtin.len_ #[t] o.type #[a.eval x]).run P w = .ok (.int .i64 n) w → (execOp a.eval o).run P w = .ok (.value (.int .i64 n)) w := by
    intro n hn
    simp only [execOp, hop, resolve, Sem.run_bind, Sem.run_pure, Result.andThen_ok, invoke, builtin, List.map_toArray, List.map_cons, List.map_nil, hn]
  simp only [step] at hs
  split at hs
  · rename_i j off len cap sz e1
    obtain ⟨hb, hs⟩ := hs
    cases str <;> simp at hb
    obtain ⟨e, hu⟩ := hu
    rw [e1] at h1
    have h1' : RelA w G ρ (a.eval x) (.sl j off len cap sz) := h1
    cases hv1 : a.eval x <;> rw [hv1] at h1' <;> cases h1'
    exact p.value hod hdt (hexec len (by simp [Builtin.len_, hv1, underlying_run hu, Sem.run_bind, goInt])) (.of_A (.d _ _ (.int _ _))) hs
  · rename_i s e1
    obtain ⟨hb, hs⟩ := hs
    subst hb
    rw [e1] at h1
    obtain ⟨s1, v1, rfl⟩ := h1.str
    exact p.value hod hdt (hexec s1.size (by simp [Builtin.len_, v1, underlying_run hu, Sem.run_bind, goInt])) (.of_A (.d _ _ (.int _ _))) hs
  · split at hs
    · rename_i sz l e1
      obtain ⟨hb, hs⟩ := hs
      cases str <;> simp at hb
      obtain ⟨e, hu⟩ := hu
      have hrd := h1.listS e1
      obtain ⟨ad, cap, v1, hcap, _⟩ := hrd.slice
      exact p.value hod hdt (hexec l.length (by simp [Builtin.len_, v1, underlying_run hu, Sem.run_bind, goInt])) (.of_A (.d _ _ (.int _ _))) hs
    · exact hs.elim

theorem sim_ex {d i : Nat} {x : Operand} {x' : O} {t1 : Nat} (p : Pre n0 gl nt w G ρ lam a st) (hod : o.dst = some d) (hdt : d < nt) (hop : o.op = .extract x i) (hx : opd P t1 x = some x')
    (hs : step (AP P gl) gl (.ex d x' i) st K) : o.wp P a w (After n0 gl nt w G ρ K) Q := by
  obtain ⟨L1, h1⟩ := ev_any hx p.rel
  simp only [step] at hs
  split at hs
  · rename_i vs e1
    obtain ⟨hb, hs⟩ := hs
    rw [e1] at h1
    have h1' : RelA w G ρ (a.eval x) (.tuple vs) := h1
    cases hv1 : a.eval x <;> rw [hv1] at h1' <;> cases h1'
    rename_i us hus
    have hlt : i < vs.length := by simpa [Nat.blt_eq] using hb
    have hul : i < us.length := by rw [hus.length]; exact hlt
    have hg : (⟨us⟩ : Array Value)[i]? = some us[i] := by simp [hul]
    refine p.value hod hdt (v := us[i]) ?_ (.of_A ?_) hs
    · simp only [execOp, hop, hv1, Instr.extract, hg, Sem.run_bind, Sem.run_pure, Result.andThen_ok]
    · have : vs[i]? = some (vs.getD i .undef) := by rw [List.getD_eq_getElem?_getD, List.getElem?_eq_getElem hlt]; rfl
      exact hus.get (by simp [hul]) this
  · exact hs.elim

theorem sim_fa {d f : Nat} {x : Operand} {x' : O} {t t1 n : Nat} {fs : Array Field} {fl : Field} (p : Pre n0 gl nt w G ρ lam a st) (hod : o.dst = some d) (hdt : d < nt) (hop : o.op = .fieldAddr t x f) (hx : opd P t1 x = some x')
    (hu : P.underlying t = some (.struct fs)) (hf : fs[f]? = some fl) (hz : szOf P fl.type = some n) (hpos : 0 < n) (hs : step (AP P gl) gl (.fa d x' fl.offset) st K) : o.wp P a w (After n0 gl nt w G ρ K) Q := by
  obtain ⟨L1, h1⟩ := ev_any hx p.rel
  have hexec : ∀ b off, a.eval x = .pointer (some ⟨b, off, none⟩) → (execOp a.eval o).run P w = .ok (.value (.pointer (some ⟨b, off + fl.offset, none⟩))) w := by
    intro b off hv
    have hn : ¬ n = 0 := by omega
    simp only [execOp, hop, Instr.fieldAt, Sem.run_bind, underlying_run hu, Result.andThen_ok, hf, hv, Instr.sureAddr, Sem.run_pure, fieldPlace, szOf_run hz, Sem.run_ite, if_neg hn, Addr.add_mid]
  simp only [step] at hs
  split at hs
  · rename_i i off e1
    rw [e1] at h1
    have h1' : RelA w G ρ (a.eval x) (.ptr i off) := h1
    cases hv1 : a.eval x <;> rw [hv1] at h1' <;> cases h1'
    rename_i b hb
    exact p.value hod hdt (hexec _ _ hv1) (.of_A (.ptr _ _ _ hb)) hs
  · rename_i s off e1
    rw [e1] at h1
    obtain ⟨b, hb, hv1⟩ := h1
    exact p.value hod hdt (hexec _ _ hv1) (show RelT w G ρ lam _ _ (.lref s (off + fl.offset)) from ⟨b, hb, rfl⟩) hs
  · rename_i cs off e1
    rw [e1] at h1
    have h1' := h1.dat
    cases hv1 : a.eval x <;> rw [hv1] at h1' <;> cases h1'
    rename_i b base vs hc hr
    exact p.value hod hdt (hexec _ _ hv1) (.of_A (.d _ _ (by rw [Nat.add_assoc]; exact .iptr _ _ _ _ _ hc hr))) hs
  · exact hs.elim

theorem sim_aa {d : Nat} {x i : Operand} {x' i' : O} {t t1 t2 e len n : Nat} (p : Pre n0 gl nt w G ρ lam a st) (hod : o.dst = some d) (hdt : d < nt) (hop : o.op = .indexAddr t x i) (hx : opd P t1 x = some x') (hi : opd P t2 i = some i')
    (hu : P.underlying t = some (.array len e)) (hz : szOf P e = some n) (hs : step (AP P gl) gl (.aa d x' i' len n) st K) : o.wp P a w (After n0 gl nt w G ρ K) Q := by
  obtain ⟨L1, h1⟩ := ev_any hx p.rel
  obtain ⟨L2, h2⟩ := ev_any hi p.rel
  simp only [step] at hs
  split at hs
  · rename_i k z e2
    rw [e2] at h2
    have v2 := h2.int
    obtain ⟨hb, hs⟩ := hs
    simp only [Bool.and_eq_true, decide_eq_true_eq] at hb
    have hexec : ∀ b off, a.eval x = .pointer (some ⟨b, off, none⟩) → (execOp a.eval o).run P w = .ok (.value (.pointer (some ⟨b, off + z.toNat * n, none⟩))) w := by
      intro b off hv
      simp only [execOp, hop, Instr.indexAt, asIntOf, v2, Sem.run_bind, Sem.run_pure, underlying_run hu, Result.andThen_ok, hv, Instr.sureAddr, Sem.run_ite, if_pos (And.intro hb.1 hb.2), szOf_run hz, Addr.add_mid]
    split at hs
    · rename_i j off e1
      rw [e1] at h1
      have h1' : RelA w G ρ (a.eval x) (.ptr j off) := h1
      cases hv1 : a.eval x <;> rw [hv1] at h1' <;> cases h1'
      rename_i b hb'
      exact p.value hod hdt (hexec _ _ hv1) (.of_A (.ptr _ _ _ hb')) hs
    · rename_i s off e1
      rw [e1] at h1
      obtain ⟨b, hb', hv1⟩ := h1
      exact p.value hod hdt (hexec _ _ hv1) (show RelT w G ρ lam _ _ (.lref s (off + z.toNat * n)) from ⟨b, hb', rfl⟩) hs
    · rename_i cs off e1
      rw [e1] at h1
      have h1' := h1.dat
      cases hv1 : a.eval x <;> rw [hv1] at h1' <;> cases h1'
      rename_i b base vs hc hr
      exact p.value hod hdt (hexec _ _ hv1) (.of_A (.d _ _ (by rw [Nat.add_assoc]; exact .iptr _ _ _ _ _ hc hr))) hs
    · exact hs.elim
  · exact hs.elim

theorem sim_nc {d : Nat} {x : Operand} {x' : O} {t1 : Nat} (p : Pre n0 gl nt w G ρ lam a st) (hod : o.dst = some d) (hdt : d < nt) (hop : o.op = .nilCheck x) (hx : opd P t1 x = some x')
    (hs : step (AP P gl) gl (.nc d x') st K) : o.wp P a w (After n0 gl nt w G ρ K) Q := by
  obtain ⟨L1, h1⟩ := ev_any hx p.rel
  simp only [step] at hs
  split at hs
  · rename_i i off e1
    rw [e1] at h1
    have h1' : RelA w G ρ (a.eval x) (.ptr i off) := h1
    cases hv1 : a.eval x <;> rw [hv1] at h1' <;> cases h1'
    rename_i b hb
    exact p.value hod hdt (by simp only [execOp, hop, hv1]; rfl) (.of_A (.ptr _ _ _ hb)) hs
  · rename_i s off e1
    rw [e1] at h1
    obtain ⟨b, hb, hv1⟩ := h1
    exact p.value hod hdt (by simp only [execOp, hop, hv1]; rfl) (show RelT w G ρ lam _ _ (.lref s off) from ⟨b, hb, rfl⟩) hs
  · rename_i cs off e1
    rw [e1] at h1
    have h1' := h1.dat
    cases hv1 : a.eval x <;> rw [hv1] at h1' <;> cases h1'
    rename_i b base vs hc hr
    exact p.value hod hdt (by simp only [execOp, hop, hv1]; rfl) (.of_A (.d _ _ (.iptr _ _ _ _ _ hc hr))) hs
  · rename_i f e1
    rw [e1] at h1
    have h1' := h1.dat
    cases hv1 : a.eval x <;> rw [hv1] at h1' <;> cases h1'
    exact p.value hod hdt (by simp only [execOp, hop, hv1]; rfl) (.of_A (.d _ _ (.fn _))) hs
  · rename_i f ars cs e1
    rw [e1] at h1
    have h1' : RelA w G ρ (a.eval x) (.func f ars cs) := h1
    cases hv1 : a.eval x <;> rw [hv1] at h1' <;> cases h1'
    rename_i us vs h3 h4
    exact p.value hod hdt (by simp only [execOp, hop, hv1]; rfl) (.of_A (.func _ _ _ _ _ h3 h4)) hs
  · exact hs.elim

theorem sim_mn {d : Nat} {x y : Operand} {x' y' : O} {lt : Bool} {ts : Array TypeId} {t1 t2 : Nat} (p : Pre n0 gl nt w G ρ lam a st) (hod : o.dst = some d) (hdt : d < nt) (hop : o.op = .call { callee := .builtin (if lt then .min else .max), args := #[x, y], argTypes := ts }) (hx : opd P t1 x = some x') (hy : opd P t2 y = some y')
    (hs : step (AP P gl) gl (.mn d lt x' y') st K) : o.wp P a w (After n0 gl nt w G ρ K) Q := by
  obtain ⟨L1, h1⟩ := ev_any hx p.rel
  obtain ⟨L2, h2⟩ := ev_any hy p.rel
  simp only [step] at hs
  split at hs
  · rename_i k m k' n e1 e2
    rw [e1] at h1; rw [e2] at h2
    have v1 := h1.int
    have v2 := h2.int
    obtain ⟨hkk, hs⟩ := hs
    refine p.value hod hdt (v := .int k (cond (cond lt (decide (n < m)) (decide (m < n))) n m)) ?_ (.of_A (.d _ _ (.int _ _))) hs
    cases lt
    · simp only [execOp, hop, resolve, Sem.run_bind, Sem.run_pure, Result.andThen_ok, invoke, builtin, List.map_toArray, List.map_cons, List.map_nil, v1, v2, Bool.false_eq_true, if_false, Builtin.max_, List.foldlM_cons, List.foldlM_nil, Builtin.max2]
      by_cases h : m < n <;> simp [h]
    · simp only [execOp, hop, resolve, Sem.run_bind, Sem.run_pure, Result.andThen_ok, invoke, builtin, List.map_toArray, List.map_cons, List.map_nil, v1, v2, if_true, Builtin.min_, List.foldlM_cons, List.foldlM_nil, Builtin.min2]
      by_cases h : n < m <;> simp [h]
  · exact hs.elim

end
end Go.Vm
end

section
/- New blocks, and writes into blocks. Conditions: none. -/
namespace Go.Vm

section
variable {P : Program} {gl : Nat → List D} {n0 nt : Nat} {a : Act} {w w' : World} {G G' : Gh} {ρ ρ' : List Nat} {lam lam' : Nat → Option Nat} {st st' : St} {K : St → Prop} {o : Oper} {Q : Exit → Act → World → Prop}

theorem cell_block {b off : Nat} {v : Value} (h : w.cell? ⟨b, off, none⟩ = some v) : b < w.heap.size := by
  unfold World.cell? at h
  rcases Nat.lt_or_ge b w.heap.size with hlt | hge
  · exact hlt
  · simp [Array.getElem?_eq_none hge] at h

theorem cell_congr {b off : Nat} (h : w'.heap[b]? = w.heap[b]?) : w'.cell? ⟨b, off, none⟩ = w.cell? ⟨b, off, none⟩ := by
  unfold World.cell?
  rw [show ((⟨b, off, none⟩ : Addr).block) = b from rfl, h]

theorem cell_of_block {b j : Nat} {c : Array Value} {E : TypeId} {fz : Nat × Nat} (h : w.heap[b]? = some (.cells c E fz)) : w.cell? ⟨b, j, none⟩ = c[j]? := by
  unfold World.cell?
  rw [show ((⟨b, j, none⟩ : Addr).block) = b from rfl, h]
  rfl

theorem frozen_of_block {b j : Nat} {c : Array Value} {E : TypeId} {fz : Nat × Nat} (h : w.heap[b]? = some (.cells c E fz)) : w.frozen? ⟨b, j, none⟩ = (decide (fz.1 ≤ j) && decide (j < fz.2)) := by
  unfold World.frozen?
  rw [show ((⟨b, j, none⟩ : Addr).block) = b from rfl, h]

/-- A heap that has grown by one block. -/
structure Grew (w : World) (ob : Obj) (w' : World) : Prop where
  heap : w'.heap = w.heap.push ob
  os : w'.os = w.os := by rfl
  out : w'.output = w.output := by rfl

def newG (w : World) (G : Gh) (L : Loc) (n : Nat) : Gh := upd G w.heap.size (some (L, n))

section
variable {ob : Obj} {L0 : Loc} {n0 : Nat} (hw : Grew w ob w') (hlt : ∀ b L n, G b = some (L, n) → b < w.heap.size)
 include hw

theorem Grew.old {b : Nat} (hb : b < w.heap.size) : w'.heap[b]? = w.heap[b]? := by
  rw [hw.heap, Array.getElem?_push]; simp [Nat.ne_of_lt hb]
theorem Grew.new : w'.heap[w.heap.size]? = some ob := by rw [hw.heap, Array.getElem?_push]; simp
theorem Grew.size : w'.heap.size = w.heap.size + 1 := by rw [hw.heap]; simp
theorem Grew.keeps : Keeps w G w' (newG w G L0 n0) := by
  refine ⟨?_, ?_, ?_⟩
  rotate_left 2
  · intro b n h
    obtain ⟨c, E, fz, h2, h3⟩ := h
    have hb : b < w.heap.size := (Array.getElem?_eq_some_iff.1 h2).1
    exact ⟨c, E, fz, (hw.old hb).trans h2, h3⟩
  · intro b off v h
    have hb := cell_block h.1
    refine ⟨by rw [cell_congr (hw.old hb)]; exact h.1, ?_, h.2.2⟩
    intro L n hG
    rw [newG, upd_ne _ _ (Nat.ne_of_lt hb)] at hG
    exact h.2.1 _ _ hG
  · intro b ks vs h
    obtain ⟨h1, mes, clock, h2, h3⟩ := h
    have hb : b < w.heap.size := (Array.getElem?_eq_some_iff.1 h2).1
    exact ⟨by rw [newG, upd_ne _ _ (Nat.ne_of_lt hb)]; exact h1, mes, clock, (hw.old hb).trans h2, h3⟩
 include hlt
theorem Grew.same (L : Loc) : SameL L L w G w' (newG w G L0 n0) := fun b n h => by
  have hb := hlt _ _ _ h
  exact ⟨hw.old hb, by rw [newG, upd_ne _ _ (Nat.ne_of_lt hb)]; exact h⟩
theorem Grew.good (h0 : L0 ≠ .foreign) : Good w G w' (newG w G L0 n0) where
  size := by rw [hw.size]; omega
  imm b hb _ := ⟨hw.old hb, by rw [newG, upd_ne _ _ (Nat.ne_of_lt hb)]⟩
  new b n hb hG := by
    rw [newG, upd_eq] at hG
    split at hG
    · simp only [Option.some.injEq, Prod.mk.injEq] at hG; exact h0 hG.1
    · exact absurd (hlt _ _ _ hG) (Nat.not_lt.2 hb)
  old b n hb hG := by rw [newG, upd_ne _ _ (Nat.ne_of_lt hb)] at hG; exact hG
  keep := hw.keeps
  os := hw.os
  out := hw.out
theorem Grew.lt : ∀ b L n, newG w G L0 n0 b = some (L, n) → b < w'.heap.size := fun b L n h => by
  rw [newG, upd_eq] at h
  rw [hw.size]
  split at h
  · omega
  · have := hlt _ _ _ h; omega
/-- The frame and the objects stay. -/
theorem Grew.rel {tmps : Array Value} (h : RelS gl w G ρ lam tmps st) : RelS gl w' (newG w G L0 n0) ρ lam tmps st where
  tm t := (h.tm t).tr hw.keeps (fun _ _ h => h) (fun _ _ h => h) (hw.same hlt _)
  bx t cs hb := by
    obtain ⟨b, h1, h2⟩ := h.bx t cs hb
    exact ⟨b, h1, RelBox.tr hw.keeps (fun _ _ h => h) (hw.same hlt _) (fun _ => hw.same hlt _) h2⟩
  nb := h.nb
  ob := h.ob.tr hw.keeps (fun _ => hw.same hlt _) (fun _ _ => hw.same hlt _)
  gb := h.gb.tr hw.keeps
  lt := hw.lt hlt
end

/-- Values that are in no place of their own make a new box. -/
theorem new_box {cs : List Val} {vs : List Value} {L0 : Loc} {LC : Nat → Loc} {E : TypeId} (hw : Grew w (.cells ⟨vs⟩ E) w') (hr : RelL w G ρ vs cs) :
    RelBox w' (newG w G L0 0) ρ w.heap.size L0 LC cs :=
  ⟨⟨vs⟩, E, (0, 0), hw.new, by simp, by rw [newG, upd_self], by simpa using Nat.le_of_eq hr.length.symm, fun j v x hv hx => .of_A ((hr.get (by simpa using hv) hx).keep hw.keeps fun _ _ h => h)⟩

/-- A new local box. -/
theorem RelS.newLocal {d : Nat} {cs : List Val} {vs : List Value} {E : TypeId} (h : RelS gl w G ρ lam a.tmps st) (hw : Grew w (.cells ⟨vs⟩ E) w') (hr : RelL w G ρ vs cs) (hd : d < a.tmps.size) (hb : st.bx d = none) :
    RelS gl w' (newG w G (.bbox d) 0) ρ (upd lam d (some w.heap.size)) (a.tmps.setIfInBounds d (.pointer (some ⟨w.heap.size, 0, none⟩))) ((st.setB d cs).set d (.lref d 0)) := by
  have hlam : ∀ t b, lam t = some b → upd lam d (some w.heap.size) t = some b := by
    intro t b ht
    by_cases hd' : t = d
    · subst hd'; rw [h.nb _ hb] at ht; simp at ht
    · rw [upd_ne _ _ hd']; exact ht
  have h0 := hw.rel (L0 := .bbox d) (n0 := 0) h.lt h
  refine RelS.set (st := st.setB d cs) ⟨fun t => ?_, ?_, ?_, h0.ob, h0.gb, h0.lt⟩ hd ⟨w.heap.size, upd_self _ _ _, rfl⟩
  · exact (h0.tm t).tr (Keeps.refl _ _) (fun _ _ h => h) hlam (fun b n h => ⟨rfl, h⟩)
  · intro t cs' ht
    simp only [St.setB, upd_eq] at ht
    by_cases htd : t = d
    · subst htd
      simp only [if_true, Option.some.injEq] at ht
      subst ht
      exact ⟨w.heap.size, upd_self _ _ _, new_box hw hr⟩
    · simp only [htd, if_false] at ht
      obtain ⟨b, h1, h2⟩ := h0.bx t cs' ht
      exact ⟨b, hlam _ _ h1, h2⟩
  · intro t ht
    simp only [St.setB, upd_eq] at ht
    by_cases htd : t = d
    · simp [htd] at ht
    · simp only [htd, if_false] at ht
      rw [upd_ne _ _ htd]; exact h0.nb t ht

theorem getElem?_snoc {α : Type} {l : List α} {x y : α} {i : Nat} (h : (l ++ [x])[i]? = some y) : l[i]? = some y ∨ (i = l.length ∧ x = y) := by
  rcases Nat.lt_or_ge i l.length with hl | hl
  · rw [List.getElem?_append_left hl] at h; exact .inl h
  · rw [List.getElem?_append_right hl] at h
    right
    have : i - l.length = 0 := by
      rcases Nat.eq_zero_or_pos (i - l.length) with h0 | h0
      · exact h0
      · rw [List.getElem?_eq_none (by simp; omega)] at h; simp at h
    rw [this] at h
    exact ⟨by omega, by simpa using h⟩

/-- A new object. -/
theorem RelS.newObj {d : Nat} {cs : List Val} {vs : List Value} {E : TypeId} (h : RelS gl w G ρ lam a.tmps st) (hw : Grew w (.cells ⟨vs⟩ E) w') (hr : RelL w G ρ vs cs) (hd : d < a.tmps.size) :
    RelS gl w' (newG w G (.obj st.s.length) 0) (ρ ++ [w.heap.size + 1]) lam (a.tmps.setIfInBounds d (.pointer (some ⟨w.heap.size, 0, none⟩))) ({ st with s := st.s ++ [Ob.box cs] }.set d (.ptr st.s.length 0)) := by
  have hρ : ∀ i b : Nat, ρ[i]? = some (b + 1) → (ρ ++ [w.heap.size + 1])[i]? = some (b + 1) := by
    intro i b hi
    have hl : i < ρ.length := by
      rcases Nat.lt_or_ge i ρ.length with h' | h'
      · exact h'
      · rw [List.getElem?_eq_none h'] at hi; simp at hi
    rw [List.getElem?_append_left hl]; exact hi
  have h0 := hw.rel (L0 := .obj st.s.length) (n0 := 0) h.lt h
  have hk := hw.keeps (G := G) (L0 := .obj st.s.length) (n0 := 0)
  refine RelS.set (st := { st with s := st.s ++ [Ob.box cs] }) ⟨fun t => ?_, ?_, h0.nb, ⟨by simp [h.ob.1], ?_⟩, h0.gb, h0.lt⟩ hd (.of_A (.ptr _ _ _ (by rw [← h.ob.1]; simp)))
  · exact (h0.tm t).tr (Keeps.refl _ _) hρ (fun _ _ h => h) (fun b n h => ⟨rfl, h⟩)
  · intro t cs' ht
    obtain ⟨b, h1, h2⟩ := h0.bx t cs' ht
    exact ⟨b, h1, RelBox.tr (Keeps.refl _ _) hρ (fun b n h => ⟨rfl, h⟩) (fun j b n h => ⟨rfl, h⟩) h2⟩
  · intro i b o hb ho
    rcases getElem?_snoc hb with hb' | ⟨hi, heb⟩
    · have hil : i < st.s.length := by
        rw [← h.ob.1]
        rcases Nat.lt_or_ge i ρ.length with h' | h'
        · exact h'
        · rw [List.getElem?_eq_none h'] at hb'; simp at hb'
      rw [List.getElem?_append_left hil] at ho
      exact (h0.ob.2 i b o hb' ho).tr (Keeps.refl _ _) hρ (fun b n h => ⟨rfl, h⟩) (fun j b n h => ⟨rfl, h⟩)
    · obtain rfl : w.heap.size = b := by omega
      have hi' : i = st.s.length := by rw [← h.ob.1]; exact hi
      subst hi'
      rw [List.getElem?_append_right (Nat.le_refl _)] at ho
      simp at ho
      subst ho
      exact RelBox.tr (Keeps.refl _ _) hρ (fun b n h => ⟨rfl, h⟩) (fun j b n h => ⟨rfl, h⟩) (new_box (LC := .ocell st.s.length) hw hr)

theorem zeros_spec {t : Nat} {z : List Val} (h : zeros P t = some z) : ∃ i v, P.info? t = some i ∧ i.zero = some v ∧ v.cells.size = z.length ∧ i.size = z.length ∧ ∀ {w G ρ}, RelL w G ρ v.cells.toList z := by
  unfold zeros at h
  simp only [Option.bind_eq_bind] at h
  cases h1 : zerosOf P 20 t with
  | none => simp [h1] at h
  | some cs =>
    cases h2 : P.info? t with
    | none => simp [h1, h2] at h
    | some i =>
      cases h3 : i.zero with
      | none => simp [h1, h2, h3] at h
      | some v =>
        simp only [h1, h2, h3, Option.bind_some] at h
        split at h
        · rename_i hc
          simp only [Option.some.injEq] at h
          subst h
          simp only [Bool.and_eq_true, decide_eq_true_eq] at hc
          exact ⟨i, v, rfl, h3, hc.1.1, hc.1.2, cellsRel_L (by simpa using hc.1.1) hc.2⟩
        · simp at h

theorem zeroValue_run {t : Nat} {i : TypeInfo} {v : Value} (h : P.info? t = some i) (hz : i.zero = some v) (w : World) : (zeroValue t).run P w = .ok v w := by
  simp [zeroValue, typeInfo, Sem.run_bind, h, hz]

theorem sim_la {d e : Nat} {z : List Val} (p : Pre n0 gl nt w G ρ lam a st) (hod : o.dst = some d) (hdt : d < nt) (hop : o.op = .alloc e) (hz : zeros P e = some z)
    (hs : step (AP P gl) gl (.la d z) st K) : o.wp P a w (After n0 gl nt w G ρ K) Q := by
  obtain ⟨i, v, h1, h2, h3, h4, h5⟩ := zeros_spec hz
  simp only [step] at hs
  split at hs
  · rename_i hb
    have hr : (execOp a.eval o).run P w = .ok (.value (.pointer (some ⟨w.heap.size, 0, none⟩))) { w with heap := w.heap.push (.cells v.cells e) } := by
      simp only [execOp, hop, Instr.alloc, newVar, newRow, Sem.run_bind, zeroValue_run h1 h2, Result.andThen_ok, run_newObj, Sem.run_pure]
    have hw : Grew w (.cells ⟨v.cells.toList⟩ e) { w with heap := w.heap.push (.cells v.cells e) } := ⟨rfl, rfl, rfl⟩
    refine wp_value hr (after_mk p.df (put_defers _ _ _) (by rw [put_size]; exact p.sz) _ ρ (upd lam d (some w.heap.size)) _ ?_ (hw.good p.rel.lt (L0 := .bbox d) (n0 := 0) (by simp)) (fun _ _ h => h) hs)
    rw [hod]
    exact p.rel.newLocal hw h5 (Nat.lt_of_lt_of_le hdt p.sz) hb
  · exact hs.elim

theorem sim_ha {d e : Nat} {z : List Val} (p : Pre n0 gl nt w G ρ lam a st) (hod : o.dst = some d) (hdt : d < nt) (hop : o.op = .alloc e) (hz : zeros P e = some z)
    (hs : step (AP P gl) gl (.ha d z) st K) : o.wp P a w (After n0 gl nt w G ρ K) Q := by
  obtain ⟨i, v, h1, h2, h3, h4, h5⟩ := zeros_spec hz
  have hr : (execOp a.eval o).run P w = .ok (.value (.pointer (some ⟨w.heap.size, 0, none⟩))) { w with heap := w.heap.push (.cells v.cells e) } := by
    simp only [execOp, hop, Instr.alloc, newVar, newRow, Sem.run_bind, zeroValue_run h1 h2, Result.andThen_ok, run_newObj, Sem.run_pure]
  have hw : Grew w (.cells ⟨v.cells.toList⟩ e) { w with heap := w.heap.push (.cells v.cells e) } := ⟨rfl, rfl, rfl⟩
  refine wp_value hr (after_mk p.df (put_defers _ _ _) (by rw [put_size]; exact p.sz) _ (ρ ++ [w.heap.size + 1]) lam _ ?_ (hw.good p.rel.lt (L0 := .obj st.s.length) (n0 := 0) (by simp)) pre_app hs)
  rw [hod]
  exact p.rel.newObj hw h5 (Nat.lt_of_lt_of_le hdt p.sz)

/-- A value's cells. -/
theorem RelA.cells {v : Value} {x : Val} {n : Nat} (h : RelA w G ρ v x) (hn : (cellsOf x).all (noL n) = true) : RelL w G ρ v.cells.toList (cellsOf x) := by
  cases h with
  | undef v => cases n <;> simp [cellsOf, noL] at hn
  | agg vs cs h => exact h
  | d v y h =>
    cases h with
    | agg vs cs h => exact h.toRelL
    | bool b => exact .cons _ _ _ _ (.d _ _ (.bool b)) .nil
    | int k n => exact .cons _ _ _ _ (.d _ _ (.int k n)) .nil
    | str s l h => exact .cons _ _ _ _ (.d _ _ (.str s l h)) .nil
    | nilp => exact .cons _ _ _ _ (.d _ _ .nilp) .nil
    | nilm => exact .cons _ _ _ _ (.d _ _ .nilm) .nil
    | nilf => exact .cons _ _ _ _ (.d _ _ .nilf) .nil
    | nili => exact .cons _ _ _ _ (.d _ _ .nili) .nil
    | fn f => exact .cons _ _ _ _ (.d _ _ (.fn f)) .nil
    | iface t v x h => exact .cons _ _ _ _ (.d _ _ (.iface t v x h)) .nil
    | list0 a c s => exact .cons _ _ _ _ (.d _ _ (.list0 a c s)) .nil
    | list b off n cap sz l vs h1 h2 h3 h4 h5 => exact .cons _ _ _ _ (.d _ _ (.list b off n cap sz l vs h1 h2 h3 h4 h5)) .nil
    | iptr b base off vs cs h1 h2 => exact .cons _ _ _ _ (.d _ _ (.iptr b base off vs cs h1 h2)) .nil
    | anyi t v => exact .cons _ _ _ _ (.d _ _ (.anyi t v)) .nil
    | imap b kv vv kl vl ks vs h1 h2 h3 h4 => exact .cons _ _ _ _ (.d _ _ (.imap b kv vv kl vl ks vs h1 h2 h3 h4)) .nil
  | nil a sz => exact .cons _ _ _ _ (.nil _ _) .nil
  | ptr i off b h => exact .cons _ _ _ _ (.ptr _ _ _ h) .nil
  | map i b h => exact .cons _ _ _ _ (.map _ _ h) .nil
  | sl i off len cap cap' sz b h hc hz => exact .cons _ _ _ _ (.sl _ _ _ _ _ _ _ h hc hz) .nil
  | func f ars cs a c h1 h2 => exact .cons _ _ _ _ (.func _ _ _ _ _ h1 h2) .nil
  | tuple vs cs h => exact .cons _ _ _ _ (.tuple _ _ h) .nil
  | yl i l h => exact .cons _ _ _ _ (.yl _ _ h) .nil

/-- A value that no box of the frame is meant by. -/
theorem relT_noL_A {v : Value} {x : Val} {L : Loc} {n : Nat} (h : RelT w G ρ lam L v (snap x)) (hn : (cellsOf (snap x)).all (noL n) = true) : RelA w G ρ v (snap x) := by
  rcases h.cases with h | ⟨t, off, b, e, h1, h2⟩
  · have := h.snap
    have hs : snap (snap x) = snap x := by cases x <;> rfl
    rwa [hs] at this
  · rw [e] at hn; cases n <;> simp [cellsOf, noL] at hn

theorem relT_snapN {v : Value} {x : Val} {L : Loc} {n : Nat} (h : RelT w G ρ lam L v x) (hn : (cellsOf (snapN x)).all (noL n) = true) : RelA w G ρ v (snapN x) := by
  unfold snapN at hn ⊢
  split at hn
  · exact h
  · exact relT_noL_A (h.snap (L' := .res)) hn

theorem sim_lb {d e n t1 : Nat} {x : Operand} {x' : O} (p : Pre n0 gl nt w G ρ lam a st) (hod : o.dst = some d) (hdt : d < nt) (hop : o.op = .box e x) (hx : opd P t1 x = some x')
    (hs : step (AP P gl) gl (.lb d x' n) st K) : o.wp P a w (After n0 gl nt w G ρ K) Q := by
  simp only [step] at hs
  split at hs
  · rename_i hb
    obtain ⟨hg, hs⟩ := hs
    simp only [Bool.and_eq_true] at hg
    obtain ⟨Lx, hTx⟩ := ev_any hx p.rel
    have hA := relT_snapN hTx hg.2
    have hc := hA.cells hg.2
    have hr : (execOp a.eval o).run P w = .ok (.value (.pointer (some ⟨w.heap.size, 0, none⟩))) { w with heap := w.heap.push (.cells (a.eval x).cells e) } := by
      simp only [execOp, hop, Instr.box, newVar, newRow, Sem.run_bind, Result.andThen_ok, run_newObj, Sem.run_pure]
    have hw : Grew w (.cells ⟨(a.eval x).cells.toList⟩ e) { w with heap := w.heap.push (.cells (a.eval x).cells e) } := ⟨rfl, rfl, rfl⟩
    refine wp_value hr (after_mk p.df (put_defers _ _ _) (by rw [put_size]; exact p.sz) _ ρ (upd lam d (some w.heap.size)) _ ?_ (hw.good p.rel.lt (L0 := .bbox d) (n0 := 0) (by simp)) (fun _ _ h => h) hs)
    rw [hod]
    exact p.rel.newLocal hw hc (Nat.lt_of_lt_of_le hdt p.sz) hb
  · exact hs.elim

theorem sim_hb {d e n t1 : Nat} {x : Operand} {x' : O} (p : Pre n0 gl nt w G ρ lam a st) (hod : o.dst = some d) (hdt : d < nt) (hop : o.op = .box e x) (hx : opd P t1 x = some x')
    (hs : step (AP P gl) gl (.hb d x' n) st K) : o.wp P a w (After n0 gl nt w G ρ K) Q := by
  simp only [step] at hs
  obtain ⟨hg, hs⟩ := hs
  simp only [Bool.and_eq_true] at hg
  obtain ⟨Lx, hTx⟩ := ev_any hx p.rel
  have hA := relT_snapN hTx hg.2
  have hc := hA.cells hg.2
  have hr : (execOp a.eval o).run P w = .ok (.value (.pointer (some ⟨w.heap.size, 0, none⟩))) { w with heap := w.heap.push (.cells (a.eval x).cells e) } := by
    simp only [execOp, hop, Instr.box, newVar, newRow, Sem.run_bind, Result.andThen_ok, run_newObj, Sem.run_pure]
  have hw : Grew w (.cells ⟨(a.eval x).cells.toList⟩ e) { w with heap := w.heap.push (.cells (a.eval x).cells e) } := ⟨rfl, rfl, rfl⟩
  refine wp_value hr (after_mk p.df (put_defers _ _ _) (by rw [put_size]; exact p.sz) _ (ρ ++ [w.heap.size + 1]) lam _ ?_ (hw.good p.rel.lt (L0 := .obj st.s.length) (n0 := 0) (by simp)) pre_app hs)
  rw [hod]
  exact p.rel.newObj hw hc (Nat.lt_of_lt_of_le hdt p.sz)

/-! ### Reading a box -/

theorem RelBox.range {b : Nat} {L : Loc} {LC : Nat → Loc} {cs : List Val} (h : RelBox w G ρ b L LC cs) {off n : Nat} (hn : off + n ≤ cs.length) :
    ∃ vs : List Value, vs.length = n ∧ w.rangeAt b off vs ∧ ∀ j v x, vs[j]? = some v → ((cs.drop off).take n)[j]? = some x → RelV w G ρ (LC (off + j)) v x := by
  obtain ⟨c, E, fz, h1, h2, h3, h4, h5⟩ := h
  refine ⟨(c.toList.drop off).take n, by rw [List.length_take, List.length_drop, Array.length_toList]; omega, ?_, ?_⟩
  · intro j v hv
    rw [cell_of_block h1]
    rw [List.getElem?_take] at hv
    split at hv
    · rw [List.getElem?_drop, Array.getElem?_toList] at hv; exact hv
    · simp at hv
  · intro j v x hv hx
    rw [List.getElem?_take] at hv hx
    split at hv
    · rename_i hj
      rw [if_pos hj] at hx
      rw [List.getElem?_drop] at hv hx
      rw [Array.getElem?_toList] at hv
      exact h5 _ _ _ hv hx
    · simp at hv

/-- A load. -/
theorem load_run {b off t n : Nat} {ag : Bool} {L : Loc} {LC : Nat → Loc} {cs : List Val} (h : RelBox w G ρ b L LC cs) (hn : off + n ≤ cs.length) (hz : szOf P t = some n) (hag : aggOf P t = some ag) (h1 : ag = false → n = 1) :
    ∃ v, (Instr.loadAt t (.pointer (some ⟨b, off, none⟩))).run P w = .ok v w ∧ RelA w G ρ v (valOf cs off n ag) := by
  obtain ⟨vs, hl, hr, hv⟩ := h.range hn
  have hz' : (P.info? t).map (·.size) = some vs.length := by rw [hl]; exact hz
  cases ag with
  | true =>
    have : ∃ d, P.underlying t = some d ∧ d.isRow = true := by
      unfold aggOf at hag
      cases hu : P.underlying t with
      | none => simp [hu] at hag
      | some d => cases d <;> simp [hu] at hag <;> exact ⟨_, rfl, rfl⟩
    obtain ⟨d, hu, hd⟩ := this
    refine ⟨.agg vs.toArray, run_loadAt_mid w b off t vs d hr hu hd hz', ?_⟩
    exact frz_agg (LC := fun j => LC (off + j)) (by rw [hl, List.length_take, List.length_drop]; omega) hv
  | false =>
    obtain rfl := h1 rfl
    obtain ⟨v, rfl⟩ := List.length_eq_one_iff.1 hl
    refine ⟨v, ?_, ?_⟩
    · have hc := hr 0 v rfl
      simp only [Nat.add_zero] at hc
      simp only [Instr.loadAt, Instr.sureAddr, Sem.run_bind, Sem.run_pure, Result.andThen_ok, loadVar, aggOf_run hag, Bool.false_eq_true, if_false, run_load, hc]
    · have hx : cs[off]? = some (cs.getD off .undef) := by rw [List.getD_eq_getElem?_getD, List.getElem?_eq_getElem (by omega)]; rfl
      have h2 : ((cs.drop off).take 1)[0]? = some (cs.getD off .undef) := by
        rw [List.getElem?_take, if_pos Nat.zero_lt_one, List.getElem?_drop, Nat.add_zero]; exact hx
      exact (hv 0 v (cs.getD off .undef) rfl h2).snap

theorem sim_ll {d t s off n t1 : Nat} {ag : Bool} {x : Operand} {x' : O} (p : Pre n0 gl nt w G ρ lam a st) (hod : o.dst = some d) (hdt : d < nt) (hop : o.op = .load t x) (hx : opd P t1 x = some x')
    (hz : szOf P t = some n) (hag : aggOf P t = some ag) (h1 : ag = false → n = 1) (hs : step (AP P gl) gl (.ll d x' s off n ag) st K) : o.wp P a w (After n0 gl nt w G ρ K) Q := by
  obtain ⟨L1, hr⟩ := ev_any hx p.rel
  simp only [step] at hs
  split at hs
  · rename_i t' off' cs e1 e2
    obtain ⟨hg, hs⟩ := hs
    simp only [Bool.and_eq_true] at hg
    obtain ⟨⟨ht, ho⟩, hn⟩ := hg
    obtain rfl : t' = s := Nat.eq_of_beq_eq_true ht
    obtain rfl : off' = off := Nat.eq_of_beq_eq_true ho
    rw [e1] at hr
    obtain ⟨b, hb, hv⟩ := hr
    obtain ⟨b', hb', hbox⟩ := p.rel.bx t' cs e2
    rw [hb'] at hb
    simp only [Option.some.injEq] at hb
    subst hb
    obtain ⟨v, hrun, hrel⟩ := load_run hbox (Nat.le_of_ble_eq_true hn) hz hag h1
    refine p.value hod hdt (v := v) ?_ (.of_A hrel) hs
    simp only [execOp, hop, hv, Sem.run_bind, hrun, Result.andThen_ok, Sem.run_pure]
  · exact hs.elim

theorem RelObs.at {s : Store} (h : RelObs w G ρ s) {i b : Nat} (hi : ρ[i]? = some (b + 1)) : RelO w G ρ i b (s.getD i .dead) := by
  have hl : i < s.length := by
    rw [← h.1]
    rcases Nat.lt_or_ge i ρ.length with h' | h'
    · exact h'
    · rw [List.getElem?_eq_none h'] at hi; simp at hi
  exact h.2 i b _ hi (by rw [List.getD_eq_getElem?_getD, List.getElem?_eq_getElem hl]; rfl)

theorem load_imm {b base off t n : Nat} {ag : Bool} {vs : List Value} {cs : List D} (hc : CellsAt w G b base vs) (hr : RdL w G vs cs) (hn : off + n ≤ cs.length) (hz : szOf P t = some n) (hag : aggOf P t = some ag) (h1 : ag = false → n = 1) :
    ∃ v, (Instr.loadAt t (.pointer (some ⟨b, base + off, none⟩))).run P w = .ok v w ∧ Rd w G v (cond ag (.agg ((cs.drop off).take n)) (cs.getD off .nilp)) := by
  have hl := hr.length
  have hra : w.rangeAt b (base + off) ((vs.drop off).take n) := fun j v hv => (hc.sub off n j v hv).1
  have hlen : ((vs.drop off).take n).length = n := by rw [List.length_take, List.length_drop]; omega
  cases ag with
  | true =>
    have : ∃ d, P.underlying t = some d ∧ d.isRow = true := by
      unfold aggOf at hag
      cases hu : P.underlying t with
      | none => simp [hu] at hag
      | some d => cases d <;> simp [hu] at hag <;> exact ⟨_, rfl, rfl⟩
    obtain ⟨d, hu, hd⟩ := this
    exact ⟨.agg ((vs.drop off).take n).toArray, run_loadAt_mid w b _ t _ d hra hu hd (by rw [hlen]; exact hz), .agg _ _ ((hr.drop off).take n)⟩
  | false =>
    obtain rfl := h1 rfl
    have hlt : off < vs.length := by omega
    have hv : vs[off]? = some vs[off] := List.getElem?_eq_getElem hlt
    have hcell := (hc off _ hv).1
    refine ⟨vs[off], ?_, hr.get hv (by rw [List.getD_eq_getElem?_getD, List.getElem?_eq_getElem (by omega)]; rfl)⟩
    simp only [Instr.loadAt, Instr.sureAddr, Sem.run_bind, Sem.run_pure, Result.andThen_ok, loadVar, aggOf_run hag, Bool.false_eq_true, if_false, run_load, hcell]

theorem sim_hl {d t n t1 : Nat} {ag : Bool} {x : Operand} {x' : O} (p : Pre n0 gl nt w G ρ lam a st) (hod : o.dst = some d) (hdt : d < nt) (hop : o.op = .load t x) (hx : opd P t1 x = some x')
    (hz : szOf P t = some n) (hag : aggOf P t = some ag) (h1 : ag = false → n = 1) (hs : step (AP P gl) gl (.hl d x' n ag) st K) : o.wp P a w (After n0 gl nt w G ρ K) Q := by
  obtain ⟨L1, hr⟩ := ev_any hx p.rel
  simp only [step] at hs
  split at hs
  · rename_i i off e1
    rw [e1] at hr
    have hr' : RelA w G ρ (a.eval x) (.ptr i off) := hr
    cases hv1 : a.eval x <;> rw [hv1] at hr' <;> cases hr'
    rename_i b hb
    split at hs
    · rename_i cs e2
      obtain ⟨hn, hs⟩ := hs; simp only [Bool.and_eq_true] at hn; replace hn := hn.1
      have hbox : RelO w G ρ i b (.box cs) := by have := p.rel.ob.at hb; rwa [e2] at this
      obtain ⟨v, hrun, hrel⟩ := load_run (show RelBox w G ρ b (.obj i) (.ocell i) cs from hbox) (Nat.le_of_ble_eq_true hn) hz hag h1
      refine p.value hod hdt (v := v) ?_ (.of_A hrel) hs
      simp only [execOp, hop, hv1, Sem.run_bind, hrun, Result.andThen_ok, Sem.run_pure]
    · exact hs.elim
  · rename_i cs off e1
    rw [e1] at hr
    have h1' := hr.dat
    cases hv1 : a.eval x <;> rw [hv1] at h1' <;> cases h1'
    rename_i b base vs hc hrd
    obtain ⟨hn, hs⟩ := hs
    obtain ⟨v, hrun, hrel⟩ := load_imm hc hrd (Nat.le_of_ble_eq_true hn) hz hag h1
    refine p.value hod hdt (v := v) ?_ (.of_A (.d _ _ hrel)) hs
    simp only [execOp, hop, hv1, Sem.run_bind, hrun, Result.andThen_ok, Sem.run_pure]
  · exact hs.elim

end
end Go.Vm
end

section
/- Writes into boxes; ownership out of boxes. Conditions: none. -/
namespace Go.Vm

section
variable {P : Program} {gl : Nat → List D} {n0 nt : Nat} {a : Act} {w w' : World} {G G' : Gh} {ρ ρ' : List Nat} {lam lam' : Nat → Option Nat} {st st' : St} {K : St → Prop} {o : Oper} {Q : Exit → Act → World → Prop}

theorem setCell_old {b off b' : Nat} {u : Value} (h : b' ≠ b) : (w.setCell ⟨b, off, none⟩ u).heap[b']? = w.heap[b']? := by
  unfold World.setCell
  simp [Array.getElem?_modify, Ne.symm h]

theorem setCell_at {b off : Nat} {u : Value} {c : Array Value} {E : TypeId} {fz : Nat × Nat} (h : w.heap[b]? = some (.cells c E fz)) : (w.setCell ⟨b, off, none⟩ u).heap[b]? = some (.cells (c.setIfInBounds off u) E fz) := by
  unfold World.setCell
  simp [Array.getElem?_modify, h]

theorem setCell_size {b off : Nat} {u : Value} : (w.setCell ⟨b, off, none⟩ u).heap.size = w.heap.size := by
  unfold World.setCell; simp

section
variable {b off : Nat} {u : Value} {L0 : Loc} (hG : G b = some (L0, 0))
 include hG

theorem write_keeps : Keeps w G (w.setCell ⟨b, off, none⟩ u) G := by
  refine ⟨?_, ?_, ?_⟩
  rotate_left 2
  · intro b' n h
    obtain ⟨c, E, fz, h2, h3⟩ := h
    by_cases hne : b' = b
    · subst hne
      exact ⟨_, E, fz, setCell_at h2, by simpa using h3⟩
    · exact ⟨c, E, fz, (setCell_old hne).trans h2, h3⟩
  · intro b' off' v h
    have hne : b' ≠ b := by rintro rfl; exact absurd (h.2.1 _ _ hG) (Nat.not_lt_zero _)
    exact ⟨by rw [cell_congr (setCell_old hne)]; exact h.1, h.2⟩
  · intro b' ks vs h
    obtain ⟨h1, mes, clock, h2, h3⟩ := h
    have hne : b' ≠ b := by rintro rfl; rw [hG] at h1; simp at h1
    exact ⟨h1, mes, clock, (setCell_old hne).trans h2, h3⟩

theorem write_same {L : Loc} (hL : L ≠ L0) : SameL L L w G (w.setCell ⟨b, off, none⟩ u) G := by
  intro b' n h
  have hne : b' ≠ b := by rintro rfl; rw [hG] at h; simp only [Option.some.injEq, Prod.mk.injEq] at h; exact hL h.1.symm
  exact ⟨setCell_old hne, h⟩

theorem write_good (h0 : L0 ≠ .foreign) (hlt : ∀ b L n, G b = some (L, n) → b < w.heap.size) : Good w G (w.setCell ⟨b, off, none⟩ u) G where
  size := by rw [setCell_size]; exact Nat.le_refl _
  imm b' _ h := by
    have hne : b' ≠ b := by
      rintro rfl
      rcases h with h | ⟨n, h⟩
      · rw [hG] at h; simp at h
      · rw [hG] at h; simp only [Option.some.injEq, Prod.mk.injEq] at h; exact h0 h.1
    exact ⟨setCell_old hne, rfl⟩
  new b n hb hG := absurd (hlt _ _ _ hG) (Nat.not_lt.2 hb)
  old _ _ _ h := h
  keep := write_keeps hG
  os := rfl
  out := rfl
end

theorem RelBox.write {b off : Nat} {u : Value} {x : Val} {L : Loc} {LC : Nat → Loc} {cs : List Val} (h : RelBox w G ρ b L LC cs) (hx : RelV w G ρ (LC off) u x) (hLC : ∀ j, LC j ≠ L) :
    RelBox (w.setCell ⟨b, off, none⟩ u) G ρ b L LC (cs.set off x) := by
  obtain ⟨c, E, fz, h1, h2, h3, h4, h5⟩ := h
  refine ⟨c.setIfInBounds off u, E, fz, setCell_at h1, by simpa using h2, h3, by simpa using h4, ?_⟩
  intro j v y hv hy
  by_cases hj : j = off
  · subst hj
    have hlt : j < cs.length := by
      rcases Nat.lt_or_ge j cs.length with hl | hl
      · exact hl
      · rw [List.getElem?_eq_none (by simpa using hl)] at hy; simp at hy
    rw [Array.getElem?_setIfInBounds] at hv
    simp only [if_true, show j < c.size by omega] at hv
    simp only [Option.some.injEq] at hv
    rw [List.getElem?_set_self hlt] at hy
    simp only [Option.some.injEq] at hy
    subst hv; subst hy
    exact hx.tr (write_keeps h3) (fun _ _ h => h) (write_same h3 (hLC _))
  · rw [Array.getElem?_setIfInBounds_ne (Ne.symm hj)] at hv
    rw [List.getElem?_set_ne (Ne.symm hj)] at hy
    exact (h5 j v y hv hy).tr (write_keeps h3) (fun _ _ h => h) (write_same h3 (hLC _))

/-- One cell of a local box is written. -/
theorem RelS.writeB {tmps : Array Value} {t b off : Nat} {u : Value} {x : Val} {cs : List Val} (h : RelS gl w G ρ lam tmps st) (hb : st.bx t = some cs) (hl : lam t = some b) (hx : RelV w G ρ (.bcell t off) u x) :
    RelS gl (w.setCell ⟨b, off, none⟩ u) G ρ lam tmps (st.setB t (cs.set off x)) ∧ Good w G (w.setCell ⟨b, off, none⟩ u) G := by
  obtain ⟨b', hl', hbox⟩ := h.bx t cs hb
  rw [hl] at hl'
  simp only [Option.some.injEq] at hl'
  subst hl'
  have hG : G b = some (.bbox t, 0) := by obtain ⟨_, _, _, _, _, h3, _⟩ := hbox; exact h3
  have hk := write_keeps (w := w) (off := off) (u := u) hG
  have hs : ∀ L, L ≠ .bbox t → SameL L L w G (w.setCell ⟨b, off, none⟩ u) G := fun L hL => write_same hG hL
  refine ⟨⟨fun s => (h.tm s).tr hk (fun _ _ h => h) (fun _ _ h => h) (hs _ (by simp)), ?_, ?_, h.ob.tr hk (fun _ => hs _ (by simp)) (fun _ _ => hs _ (by simp)), h.gb.tr hk, fun b L n hg => by rw [setCell_size]; exact h.lt _ _ _ hg⟩,
    write_good hG (by simp) h.lt⟩
  · intro s cs' hs'
    simp only [St.setB, upd_eq] at hs'
    by_cases hst : s = t
    · subst hst
      simp only [if_true, Option.some.injEq] at hs'
      subst hs'
      exact ⟨b, hl, hbox.write hx (by simp)⟩
    · simp only [hst, if_false] at hs'
      obtain ⟨b2, h1, h2⟩ := h.bx s cs' hs'
      exact ⟨b2, h1, RelBox.tr hk (fun _ _ h => h) (hs _ (by simp [hst])) (fun j => hs _ (by simp)) h2⟩
  · intro s hs'
    simp only [St.setB, upd_eq] at hs'
    by_cases hst : s = t
    · simp [hst] at hs'
    · simp only [hst, if_false] at hs'; exact h.nb s hs'

theorem setB_setB (st : St) (t : Nat) (a b : List Val) : (st.setB t a).setB t b = st.setB t b := by
  unfold St.setB
  congr 1
  funext j
  simp only [upd_eq]
  split <;> rfl

theorem setB_self {st : St} {t : Nat} {cs : List Val} (h : st.bx t = some cs) : st.setB t cs = st := by
  unfold St.setB
  cases st with
  | mk tm bx s =>
    congr 1
    funext j
    simp only [upd_eq]
    split
    · rename_i hj; subst hj; exact h.symm
    · rfl

/-- Several cells. -/
theorem RelS.writesB {tmps : Array Value} {t b : Nat} : ∀ {us : List Value} {xs : List Val} {off : Nat} {cs : List Val} {w : World} {st : St}, RelS gl w G ρ lam tmps st → st.bx t = some cs → lam t = some b → RelL w G ρ us xs →
    RelS gl (w.setCells b off us) G ρ lam tmps (st.setB t (putCells cs off xs)) ∧ Good w G (w.setCells b off us) G
  | [], xs, off, cs, w, st, h, hb, hl, hr => by
    cases hr
    rw [show putCells cs off [] = cs from rfl, setB_self hb]
    exact ⟨h, Good.refl h.lt⟩
  | u :: us, xs, off, cs, w, st, h, hb, hl, hr => by
    cases hr with
    | cons _ x _ xs hx hxs =>
      obtain ⟨h1, g1⟩ := h.writeB (off := off) hb hl (.of_A hx)
      have hb' : (st.setB t (cs.set off x)).bx t = some (cs.set off x) := by simp [St.setB, upd_self]
      obtain ⟨h2, g2⟩ := RelS.writesB (off := off + 1) h1 hb' hl (hxs.keep g1.keep fun _ _ h => h)
      rw [setB_setB] at h2
      exact ⟨h2, g1.trans g2⟩

/-- One cell of an object is written. -/
theorem RelS.writeO {tmps : Array Value} {i b off : Nat} {u : Value} {x : Val} {cs : List Val} (h : RelS gl w G ρ lam tmps st) (hb : st.s.getD i .dead = .box cs) (hi : ρ[i]? = some (b + 1)) (hx : RelV w G ρ (.ocell i off) u x) :
    RelS gl (w.setCell ⟨b, off, none⟩ u) G ρ lam tmps { st with s := st.s.set i (.box (cs.set off x)) } ∧ Good w G (w.setCell ⟨b, off, none⟩ u) G := by
  have hbox : RelBox w G ρ b (.obj i) (.ocell i) cs := by have := h.ob.at hi; rwa [hb] at this
  have hG : G b = some (.obj i, 0) := by obtain ⟨_, _, _, _, _, h3, _⟩ := hbox; exact h3
  have hk := write_keeps (w := w) (off := off) (u := u) hG
  have hs : ∀ L, L ≠ .obj i → SameL L L w G (w.setCell ⟨b, off, none⟩ u) G := fun L hL => write_same hG hL
  refine ⟨⟨fun s => (h.tm s).tr hk (fun _ _ h => h) (fun _ _ h => h) (hs _ (by simp)), ?_, h.nb, ⟨by simpa using h.ob.1, ?_⟩, h.gb.tr hk, fun b L n hg => by rw [setCell_size]; exact h.lt _ _ _ hg⟩,
    write_good hG (by simp) h.lt⟩
  · intro s cs' hs'
    obtain ⟨b2, h1, h2⟩ := h.bx s cs' hs'
    exact ⟨b2, h1, RelBox.tr hk (fun _ _ h => h) (hs _ (by simp)) (fun j => hs _ (by simp)) h2⟩
  · intro j b2 ob hj hob
    by_cases hij : j = i
    · subst hij
      rw [hi] at hj
      simp only [Option.some.injEq] at hj
      obtain rfl : b = b2 := by omega
      have hlt : j < st.s.length := by
        rcases Nat.lt_or_ge j st.s.length with hl | hl
        · exact hl
        · rw [List.getElem?_eq_none (by simpa using hl)] at hob; simp at hob
      simp only [List.getElem?_set_self hlt, Option.some.injEq] at hob
      subst hob
      exact hbox.write hx (by simp)
    · simp only [List.getElem?_set_ne (Ne.symm hij)] at hob
      exact (h.ob.2 j b2 ob hj hob).tr hk (fun _ _ h => h) (hs _ (by simp [hij])) (fun k => hs _ (by simp))

theorem set_getD {s : Store} {i : Nat} {cs cs' : List Val} (h : s.getD i .dead = .box cs) : (s.set i (.box cs')).getD i .dead = .box cs' := by
  have hlt : i < s.length := by
    rcases Nat.lt_or_ge i s.length with hl | hl
    · exact hl
    · rw [List.getD_eq_getElem?_getD, List.getElem?_eq_none hl] at h; simp at h
  rw [List.getD_eq_getElem?_getD, List.getElem?_set_self hlt]; rfl

theorem set_same {s : Store} {i : Nat} {cs : List Val} (h : s.getD i .dead = .box cs) : s.set i (.box cs) = s := by
  apply List.ext_getElem?
  intro j
  by_cases hj : j = i
  · subst hj
    have hlt : j < s.length := by
      rcases Nat.lt_or_ge j s.length with hl | hl
      · exact hl
      · rw [List.getD_eq_getElem?_getD, List.getElem?_eq_none hl] at h; simp at h
    rw [List.getElem?_set_self hlt]
    rw [List.getD_eq_getElem?_getD] at h
    rw [List.getElem?_eq_getElem hlt] at h ⊢
    simp at h; rw [h]
  · rw [List.getElem?_set_ne (Ne.symm hj)]

theorem RelS.writesO {tmps : Array Value} {i b : Nat} (hi : ρ[i]? = some (b + 1)) : ∀ {us : List Value} {xs : List Val} {off : Nat} {cs : List Val} {w : World} {st : St}, RelS gl w G ρ lam tmps st → st.s.getD i .dead = .box cs → RelL w G ρ us xs →
    RelS gl (w.setCells b off us) G ρ lam tmps { st with s := st.s.set i (.box (putCells cs off xs)) } ∧ Good w G (w.setCells b off us) G
  | [], xs, off, cs, w, st, h, hb, hr => by
    cases hr
    rw [show putCells cs off [] = cs from rfl, set_same hb]
    exact ⟨h, Good.refl h.lt⟩
  | u :: us, xs, off, cs, w, st, h, hb, hr => by
    cases hr with
    | cons _ x _ xs hx hxs =>
      obtain ⟨h1, g1⟩ := h.writeO (off := off) hb hi (.of_A hx)
      have hb' : ({ st with s := st.s.set i (.box (cs.set off x)) } : St).s.getD i .dead = .box (cs.set off x) := set_getD hb
      obtain ⟨h2, g2⟩ := RelS.writesO hi (off := off + 1) h1 hb' (hxs.keep g1.keep fun _ _ h => h)
      simp only [List.set_set] at h2
      exact ⟨h2, g1.trans g2⟩

/-- A store, as the machine makes it. -/
theorem store_run {b off t : Nat} {v : Value} {L : Loc} {LC : Nat → Loc} {cs : List Val} (h : RelBox w G ρ b L LC cs) (hn : off + v.cells.size ≤ cs.length) (hz : szOf P t = some v.cells.size) (h1 : ∀ u ∈ v.cells.toList, u.oneCell' = true) :
    (Instr.storeAt t (.pointer (some ⟨b, off, none⟩)) v).run P w = .ok () (w.setCells b off v.cells.toList) := by
  obtain ⟨c, E, fz, e1, e2, e3, e4, e5⟩ := h
  have := run_storeCells_cells (P := P) b off v.cells.toList 0 w
    (fun j hj => by
      rw [Nat.add_zero, cell_of_block e1]
      have hlt : off + j < c.size := by simp at hj; omega
      simp [hlt])
    (fun j hj => by
      rw [Nat.add_zero, frozen_of_block e1]
      have hlt : off + j < c.size := by simp at hj; omega
      have := e2 _ hlt
      simp only [Bool.and_eq_false_imp, decide_eq_true_eq, decide_eq_false_iff_not]
      exact fun h1 h2 => this ⟨h1, h2⟩)
    h1
  simp only [Nat.add_zero] at this
  simp [Instr.storeAt, Instr.sureAddr, storeVar, Sem.run_bind, szOf_run hz, this]

theorem oneC_cell {v : Value} {x : Val} (h : RelA w G ρ v x) (hc : oneC x = true) : v.oneCell' = true := by
  cases h with
  | d v y h => cases h <;> first | rfl | simp [oneC] at hc
  | undef v => simp [oneC] at hc
  | agg _ _ _ => simp [oneC] at hc
  | tuple _ _ _ => simp [oneC] at hc
  | yl _ _ _ => simp [oneC] at hc
  | _ => rfl

end
end Go.Vm
end

section
/- Stores and takes at operations. Conditions: none. -/
namespace Go.Vm

section
variable {P : Program} {gl : Nat → List D} {n0 nt : Nat} {a : Act} {w w' : World} {G G' : Gh} {ρ ρ' : List Nat} {lam lam' : Nat → Option Nat} {st st' : St} {K : St → Prop} {o : Oper} {Q : Exit → Act → World → Prop}

/-- What is stored, once the temporary that held it has let it go: cells in no place, or one slice on its way from a temporary. -/
theorem stored_cases {t : Nat} {x : Operand} {y : O} (p : Pre n0 gl nt w G ρ lam a st) (hx : opd P t x = some y) (hok : (cellsOf (ev gl st y)).all cellOk = true) :
    (kill st y = st ∧ RelL w G ρ (a.eval x).cells.toList (cellsOf (ev gl st y)) ∧ ∀ u ∈ (a.eval x).cells.toList, u.oneCell' = true) ∨
    (∃ s sz l, y = .t s ∧ st.tm s = .own sz l ∧ kill st y = st.set s .undef ∧ cellsOf (ev gl st y) = [.own sz l] ∧ (a.eval x).cells.toList = [a.eval x] ∧ (a.eval x).oneCell' = true ∧ RelV w G ρ (.slot s) (a.eval x) (.own sz l)) := by
  have plain : ∀ {z : Val}, RelA w G ρ (a.eval x) z → (cellsOf z).all cellOk = true → RelL w G ρ (a.eval x).cells.toList (cellsOf z) ∧ ∀ u ∈ (a.eval x).cells.toList, u.oneCell' = true := by
    intro z hz hall
    have hn : (cellsOf z).all (noL depth) = true := by
      rw [List.all_eq_true] at hall ⊢
      intro c hc
      have := hall c hc
      simp only [cellOk, Bool.and_eq_true] at this
      exact this.2
    have hL := hz.cells hn
    refine ⟨hL, ?_⟩
    intro u hu
    obtain ⟨j, hj, rfl⟩ := List.getElem_of_mem hu
    have hj' : j < (cellsOf z).length := by rw [← hL.length]; exact hj
    have hr := hL.get (List.getElem?_eq_getElem hj) (List.getElem?_eq_getElem hj')
    have := (List.all_eq_true.1 hall) _ (List.getElem_mem hj')
    simp only [cellOk, Bool.and_eq_true] at this
    exact oneC_cell hr this.1
  rcases ev_const hx p.rel with ⟨s, rfl, rfl⟩ | ⟨hn, hA⟩
  · rcases kill_cases st (.t s) with ⟨hk, hno⟩ | ⟨s', hs', hk, sz, l, hx'⟩
    · refine .inl ⟨hk, ?_⟩
      have hT := p.rel.tm s
      rcases hT.cases with hV | ⟨t', off, b, e, _, _⟩
      · rcases hV.cases with hA | ⟨sz, d, l, e, _⟩
        · exact plain hA hok
        · exact absurd e (hno s rfl sz (d :: l))
      · exfalso
        have : ev gl st (.t s) = .lref t' off := e
        rw [this] at hok
        simp [cellsOf, cellOk, oneC] at hok
    · cases hs'
      right
      have hT := p.rel.tm s
      rw [hx'] at hT
      have hV : RelV w G ρ (.slot s) (a.tmps.getD s undef) (.own sz l) := hT
      have hsl : ∃ ad n c, a.tmps.getD s undef = .slice ad n c := by
        rcases hV.cases with hA | ⟨sz', d, l', e, hO⟩
        · cases hv : a.tmps.getD s undef <;> rw [hv] at hA <;> cases hA
          exact ⟨_, _, _, rfl⟩
        · obtain ⟨b, off, cap, c, E, fz, vs, h1, _⟩ := hO
          exact ⟨_, _, _, h1⟩
      obtain ⟨ad, n, c, hv⟩ := hsl
      have hev : a.eval (.tmp s) = .slice ad n c := hv
      refine ⟨s, sz, l, rfl, hx', hk, ?_, ?_, ?_, ?_⟩
      · show cellsOf (st.tm s) = _; rw [hx']; rfl
      · rw [hev]; rfl
      · rw [hev]; rfl
      · rw [hev]; rw [hv] at hV; exact hV
  · rcases kill_cases st y with ⟨hk, _⟩ | ⟨s', hs', hk, _⟩
    · exact .inl ⟨hk, plain hA hok⟩
    · exact absurd hs' (hn s')

/-- A slot's slice is on its way to another place: nobody holds it in the frame. -/
theorem RelS.letGo {tmps : Array Value} {s : Nat} {L : Loc} (h : RelS gl w G ρ lam tmps st) :
    RelS gl w (relab (swapL (.slot s) L) G) ρ lam tmps (st.set s .undef) := by
  have hk : Keeps w G w (relab (swapL (.slot s) L) G) := relab_keeps _
  have hid : ∀ L', L' ≠ .slot s → SameL L' L' w G w (relab (swapL (.slot s) L) G) := fun L' hL => relab_same' (swapL_ne hL)
  refine ⟨?_, ?_, h.nb, ?_, h.gb.tr hk, relab_lt h.lt⟩
  · intro t
    simp only [St.set, upd_eq]
    by_cases ht : t = s
    · simp only [ht, if_true]; exact .of_A (.undef _)
    · simp only [ht, if_false]
      exact (h.tm t).tr hk (fun _ _ h => h) (fun _ _ h => h) (hid _ (by simp [ht]))
  · intro t cs hb
    obtain ⟨b, h1, h2⟩ := h.bx t cs hb
    exact ⟨b, h1, RelBox.tr hk (fun _ _ h => h) (hid _ (by simp)) (fun j => hid _ (by simp)) h2⟩
  · exact h.ob.tr hk (fun i => hid _ (by simp)) (fun i j => hid _ (by simp))

theorem setCells_one {b off : Nat} {u : Value} : w.setCells b off [u] = w.setCell ⟨b, off, none⟩ u := rfl

theorem sim_ls {t tb off n t1 t2 : Nat} {x y : Operand} {x' y' : O} (p : Pre n0 gl nt w G ρ lam a st) (hod : o.dst = none) (hop : o.op = .store t x y) (hx : opd P t1 x = some x') (hy : opd P t2 y = some y')
    (hz : szOf P t = some n) (hs : step (AP P gl) gl (.ls x' tb off y' n) st K) : o.wp P a w (After n0 gl nt w G ρ K) Q := by
  obtain ⟨L1, hr⟩ := ev_any hx p.rel
  simp only [step] at hs
  split at hs
  · rename_i t' off' cs e1 e2
    obtain ⟨hg, hs⟩ := hs
    simp only [Bool.and_eq_true] at hg
    obtain ⟨⟨⟨⟨ht, ho⟩, hn1⟩, hn2⟩, hok⟩ := hg
    obtain rfl : t' = tb := Nat.eq_of_beq_eq_true ht
    obtain rfl : off' = off := Nat.eq_of_beq_eq_true ho
    have hn1 : (cellsOf (ev gl st y')).length = n := Nat.eq_of_beq_eq_true hn1
    rw [e1] at hr
    obtain ⟨b, hb, hv⟩ := hr
    obtain ⟨b', hb', hbox⟩ := p.rel.bx t' cs e2
    rw [hb'] at hb
    simp only [Option.some.injEq] at hb
    subst hb
    have hexec : (Instr.storeAt t (.pointer (some ⟨b', off', none⟩)) (a.eval y)).run P w = .ok () (w.setCells b' off' (a.eval y).cells.toList) → (execOp a.eval o).run P w = .ok .skip (w.setCells b' off' (a.eval y).cells.toList) := by
      intro h
      simp only [execOp, hop, hv, Sem.run_bind, h, Result.andThen_ok, Sem.run_pure]
    rcases stored_cases p hy hok with ⟨hk, hL, h1⟩ | ⟨s, sz, l, rfl, hts, hk, hcs, hvs, h1, hV⟩
    · have hsz : (a.eval y).cells.size = n := by rw [← hn1, ← hL.length, Array.length_toList]
      have hrun := store_run (P := P) (t := t) (v := a.eval y) hbox (by rw [hsz]; exact Nat.le_of_ble_eq_true hn2) (by rw [hsz]; exact hz) h1
      obtain ⟨hrel, hgood⟩ := RelS.writesB p.rel e2 hb' hL
      rw [hk] at hs
      exact wp_skip' (hexec hrun) (after_mk p.df (put_defers _ _ _) (by rw [put_size]; exact p.sz) G ρ lam _ (by rw [hod]; exact hrel) hgood (fun _ _ h => h) hs)
    · have hsz : (a.eval y).cells.size = n := by rw [← hn1, hcs, ← Array.length_toList, hvs]; rfl
      have hrun := store_run (P := P) (t := t) (v := a.eval y) hbox (by rw [hsz]; exact Nat.le_of_ble_eq_true hn2) (by rw [hsz]; exact hz) (by rw [hvs]; simpa using h1)
      have hgo := p.rel.letGo (s := s) (L := .bcell t' off')
      have hV' : RelV w (relab (swapL (.slot s) (.bcell t' off')) G) ρ (.bcell t' off') (a.eval y) (.own sz l) := by
        have := relab_same (w := w) (G := G) (swapL (.slot s) (.bcell t' off')) (.slot s)
        rw [swapL_self] at this
        exact hV.tr (relab_keeps _) (fun _ _ h => h) this
      obtain ⟨hrel, hgood⟩ := RelS.writeB (off := off') hgo (show (st.set s .undef).bx t' = some cs from e2) hb' hV'
      rw [hk, hcs] at hs
      rw [hvs] at hrun hexec
      rw [setCells_one] at hrun hexec
      exact wp_skip' (hexec hrun) (after_mk p.df (put_defers _ _ _) (by rw [put_size]; exact p.sz) _ ρ lam _ (by rw [hod]; exact hrel) ((swap_good p.rel.lt (by simp) (by simp)).trans hgood) (fun _ _ h => h) hs)
  · exact hs.elim

theorem sim_hs {t n t1 t2 : Nat} {x y : Operand} {x' y' : O} (p : Pre n0 gl nt w G ρ lam a st) (hod : o.dst = none) (hop : o.op = .store t x y) (hx : opd P t1 x = some x') (hy : opd P t2 y = some y')
    (hz : szOf P t = some n) (hs : step (AP P gl) gl (.hs x' y' n) st K) : o.wp P a w (After n0 gl nt w G ρ K) Q := by
  obtain ⟨L1, hr⟩ := ev_any hx p.rel
  simp only [step] at hs
  split at hs
  · rename_i i off e1
    rw [e1] at hr
    have hr' : RelA w G ρ (a.eval x) (.ptr i off) := hr
    cases hv1 : a.eval x <;> rw [hv1] at hr' <;> cases hr'
    rename_i b hb
    split at hs
    · rename_i cs e2
      obtain ⟨hg, hs⟩ := hs
      simp only [Bool.and_eq_true] at hg
      obtain ⟨⟨hn1, hn2⟩, hok⟩ := hg
      have hn1 : (cellsOf (ev gl st y')).length = n := Nat.eq_of_beq_eq_true hn1
      have hbox : RelBox w G ρ b (.obj i) (.ocell i) cs := by have := p.rel.ob.at hb; rwa [e2] at this
      have hexec : (Instr.storeAt t (.pointer (some ⟨b, off, none⟩)) (a.eval y)).run P w = .ok () (w.setCells b off (a.eval y).cells.toList) → (execOp a.eval o).run P w = .ok .skip (w.setCells b off (a.eval y).cells.toList) := by
        intro h
        simp only [execOp, hop, hv1, Sem.run_bind, h, Result.andThen_ok, Sem.run_pure]
      rcases stored_cases p hy hok with ⟨hk, hL, h1⟩ | ⟨s, sz, l, rfl, hts, hk, hcs, hvs, h1, hV⟩
      · have hsz : (a.eval y).cells.size = n := by rw [← hn1, ← hL.length, Array.length_toList]
        have hrun := store_run (P := P) (t := t) (v := a.eval y) hbox (by rw [hsz]; exact Nat.le_of_ble_eq_true hn2) (by rw [hsz]; exact hz) h1
        obtain ⟨hrel, hgood⟩ := RelS.writesO hb p.rel e2 hL
        rw [hk] at hs
        exact wp_skip' (hexec hrun) (after_mk p.df (put_defers _ _ _) (by rw [put_size]; exact p.sz) G ρ lam _ (by rw [hod]; exact hrel) hgood (fun _ _ h => h) hs)
      · have hsz : (a.eval y).cells.size = n := by rw [← hn1, hcs, ← Array.length_toList, hvs]; rfl
        have hrun := store_run (P := P) (t := t) (v := a.eval y) hbox (by rw [hsz]; exact Nat.le_of_ble_eq_true hn2) (by rw [hsz]; exact hz) (by rw [hvs]; simpa using h1)
        have hgo := p.rel.letGo (s := s) (L := .ocell i off)
        have hV' : RelV w (relab (swapL (.slot s) (.ocell i off)) G) ρ (.ocell i off) (a.eval y) (.own sz l) := by
          have := relab_same (w := w) (G := G) (swapL (.slot s) (.ocell i off)) (.slot s)
          rw [swapL_self] at this
          exact hV.tr (relab_keeps _) (fun _ _ h => h) this
        obtain ⟨hrel, hgood⟩ := RelS.writeO (off := off) hgo (show (st.set s .undef).s.getD i .dead = .box cs from e2) hb hV'
        rw [hk, hcs] at hs
        rw [hvs] at hrun hexec
        rw [setCells_one] at hrun hexec
        exact wp_skip' (hexec hrun) (after_mk p.df (put_defers _ _ _) (by rw [put_size]; exact p.sz) _ ρ lam _ (by rw [hod]; exact hrel) ((swap_good p.rel.lt (by simp) (by simp)).trans hgood) (fun _ _ h => h) hs)
    · exact hs.elim
  · exact hs.elim

/-! ### Ownership out of a box -/

/-- A cell's slice goes to a slot. -/
theorem RelBox.takeCell {b off : Nat} {cs : List Val} {L : Loc} {LC : Nat → Loc} {d : Nat} (h : RelBox w G ρ b L LC cs) (hL : L ≠ LC off) (hne : ∀ j, j ≠ off → LC j ≠ LC off) (hlt : off < cs.length) :
    RelBox w (relab (swapL (LC off) (.slot d)) G) ρ b L LC (cs.set off .undef) ∧ ∃ v, w.cell? ⟨b, off, none⟩ = some v ∧ RelV w (relab (swapL (LC off) (.slot d)) G) ρ (.slot d) v (cs.getD off .undef) := by
  have hk : Keeps w G w (relab (swapL (LC off) (.slot d)) G) := relab_keeps _
  have hid : ∀ L', L' ≠ LC off → SameL L' L' w G w (relab (swapL (LC off) (.slot d)) G) := fun L' hL => relab_same' (swapL_ne hL)
  obtain ⟨c, E, fz, h1, h2, h3, h4, h5⟩ := h
  refine ⟨⟨c, E, fz, h1, h2, (hid L hL _ _ h3).2, by simpa using h4, ?_⟩, ?_⟩
  · intro j v y hv hy
    by_cases hj : j = off
    · subst hj
      rw [List.getElem?_set_self hlt] at hy
      simp only [Option.some.injEq] at hy
      subst hy
      exact .of_A (.undef _)
    · rw [List.getElem?_set_ne (Ne.symm hj)] at hy
      exact (h5 j v y hv hy).tr hk (fun _ _ h => h) (hid _ (hne j hj))
  · have hlc : off < c.size := by omega
    refine ⟨c[off], by rw [cell_of_block h1]; simp [hlc], ?_⟩
    have hx : cs[off]? = some (cs.getD off .undef) := by rw [List.getD_eq_getElem?_getD, List.getElem?_eq_getElem hlt]; rfl
    have hs := relab_same (w := w) (G := G) (swapL (LC off) (.slot d)) (LC off)
    rw [swapL_self] at hs
    exact (h5 off c[off] _ (by simp [hlc]) hx).tr hk (fun _ _ h => h) hs

theorem load_one {b off t : Nat} {v : Value} (hc : w.cell? ⟨b, off, none⟩ = some v) (hag : aggOf P t = some false) : (Instr.loadAt t (.pointer (some ⟨b, off, none⟩))).run P w = .ok v w := by
  simp only [Instr.loadAt, Instr.sureAddr, Sem.run_bind, Sem.run_pure, Result.andThen_ok, loadVar, aggOf_run hag, Bool.false_eq_true, if_false, run_load, hc]

theorem sim_lt {d t tb off t1 : Nat} {x : Operand} {x' : O} (p : Pre n0 gl nt w G ρ lam a st) (hod : o.dst = some d) (hdt : d < nt) (hop : o.op = .load t x) (hx : opd P t1 x = some x')
    (hag : aggOf P t = some false) (hs : step (AP P gl) gl (.lt d x' tb off) st K) : o.wp P a w (After n0 gl nt w G ρ K) Q := by
  obtain ⟨L1, hr⟩ := ev_any hx p.rel
  simp only [step] at hs
  split at hs
  · rename_i t' off' cs e1 e2
    obtain ⟨hg, hs⟩ := hs
    simp only [Bool.and_eq_true] at hg
    obtain ⟨⟨ht, ho⟩, hn⟩ := hg
    obtain rfl : t' = tb := Nat.eq_of_beq_eq_true ht
    obtain rfl : off' = off := Nat.eq_of_beq_eq_true ho
    have hlt : off' < cs.length := by simpa [Nat.blt_eq] using hn
    rw [e1] at hr
    obtain ⟨b, hb, hv⟩ := hr
    obtain ⟨b', hb', hbox⟩ := p.rel.bx t' cs e2
    rw [hb'] at hb
    simp only [Option.some.injEq] at hb
    subst hb
    obtain ⟨hbox2, v, hc, hV⟩ := hbox.takeCell (d := d) (off := off') (by simp) (by intro j hj; simp [hj]) hlt
    have hk : Keeps w G w (relab (swapL (.bcell t' off') (.slot d)) G) := relab_keeps _
    have hid : ∀ L', L' ≠ .bcell t' off' → SameL L' L' w G w (relab (swapL (.bcell t' off') (.slot d)) G) := fun L' hL => relab_same' (swapL_ne hL)
    have hrel : RelS gl w (relab (swapL (.bcell t' off') (.slot d)) G) ρ lam a.tmps (st.setB t' (cs.set off' .undef)) := by
      refine ⟨fun s => (p.rel.tm s).tr hk (fun _ _ h => h) (fun _ _ h => h) (hid _ (by simp)), ?_, ?_, p.rel.ob.tr hk (fun _ => hid _ (by simp)) (fun _ _ => hid _ (by simp)), p.rel.gb.tr hk, relab_lt p.rel.lt⟩
      · intro s cs' hs'
        simp only [St.setB, upd_eq] at hs'
        by_cases hst : s = t'
        · subst hst
          simp only [if_true, Option.some.injEq] at hs'
          subst hs'
          exact ⟨b', hb', hbox2⟩
        · simp only [hst, if_false] at hs'
          obtain ⟨b2, h1, h2⟩ := p.rel.bx s cs' hs'
          exact ⟨b2, h1, RelBox.tr hk (fun _ _ h => h) (hid _ (by simp)) (fun j => hid _ (by simp [hst])) h2⟩
      · intro s hs'
        simp only [St.setB, upd_eq] at hs'
        by_cases hst : s = t'
        · simp [hst] at hs'
        · simp only [hst, if_false] at hs'; exact p.rel.nb s hs'
    refine wp_value (v := v) ?_ (after_set hrel p.df p.sz hdt (swap_good p.rel.lt (by simp) (by simp)) (fun _ _ h => h) hod (.of_V hV) hs)
    simp only [execOp, hop, hv, Sem.run_bind, load_one hc hag, Result.andThen_ok, Sem.run_pure]
  · exact hs.elim

theorem sim_ht {d t t1 : Nat} {x : Operand} {x' : O} (p : Pre n0 gl nt w G ρ lam a st) (hod : o.dst = some d) (hdt : d < nt) (hop : o.op = .load t x) (hx : opd P t1 x = some x')
    (hag : aggOf P t = some false) (hs : step (AP P gl) gl (.ht d x') st K) : o.wp P a w (After n0 gl nt w G ρ K) Q := by
  obtain ⟨L1, hr⟩ := ev_any hx p.rel
  simp only [step] at hs
  split at hs
  · rename_i i off e1
    rw [e1] at hr
    have hr' : RelA w G ρ (a.eval x) (.ptr i off) := hr
    cases hv1 : a.eval x <;> rw [hv1] at hr' <;> cases hr'
    rename_i b hb
    split at hs
    · rename_i cs e2
      obtain ⟨hg, hs⟩ := hs
      have hlt : off < cs.length := by simpa [Nat.blt_eq] using hg
      have hbox : RelBox w G ρ b (.obj i) (.ocell i) cs := by have := p.rel.ob.at hb; rwa [e2] at this
      obtain ⟨hbox2, v, hc, hV⟩ := hbox.takeCell (d := d) (off := off) (by simp) (by intro j hj; simp [hj]) hlt
      have hk : Keeps w G w (relab (swapL (.ocell i off) (.slot d)) G) := relab_keeps _
      have hid : ∀ L', L' ≠ .ocell i off → SameL L' L' w G w (relab (swapL (.ocell i off) (.slot d)) G) := fun L' hL => relab_same' (swapL_ne hL)
      have hrel : RelS gl w (relab (swapL (.ocell i off) (.slot d)) G) ρ lam a.tmps { st with s := st.s.set i (.box (cs.set off .undef)) } := by
        refine ⟨fun s => (p.rel.tm s).tr hk (fun _ _ h => h) (fun _ _ h => h) (hid _ (by simp)), ?_, p.rel.nb, ⟨by simpa using p.rel.ob.1, ?_⟩, p.rel.gb.tr hk, relab_lt p.rel.lt⟩
        · intro s cs' hs'
          obtain ⟨b2, h1, h2⟩ := p.rel.bx s cs' hs'
          exact ⟨b2, h1, RelBox.tr hk (fun _ _ h => h) (hid _ (by simp)) (fun j => hid _ (by simp)) h2⟩
        · intro j b2 ob hj hob
          by_cases hij : j = i
          · subst hij
            rw [hb] at hj
            simp only [Option.some.injEq] at hj
            obtain rfl : b = b2 := by omega
            have hlt' : j < st.s.length := by
              rcases Nat.lt_or_ge j st.s.length with hl | hl
              · exact hl
              · rw [List.getElem?_eq_none (by simpa using hl)] at hob; simp at hob
            simp only [List.getElem?_set_self hlt', Option.some.injEq] at hob
            subst hob
            exact hbox2
          · simp only [List.getElem?_set_ne (Ne.symm hij)] at hob
            exact (p.rel.ob.2 j b2 ob hj hob).tr hk (fun _ _ h => h) (hid _ (by simp)) (fun k => hid _ (by simp [hij]))
      refine wp_value (v := v) ?_ (after_set hrel p.df p.sz hdt (swap_good p.rel.lt (by simp) (by simp)) (fun _ _ h => h) hod (.of_V hV) hs)
      simp only [execOp, hop, hv1, Sem.run_bind, load_one hc hag, Result.andThen_ok, Sem.run_pure]
    · exact hs.elim
  · exact hs.elim

end
end Go.Vm
end
