/- Part of a small abstract machine over the kit. Conditions: none. -/
import GoSem.Core.View
import GoSem.Core.Region
import GoSem.Op.Equal
import Derived.Deep.MidRow
import Derived.Calls
import Derived.Laws.Sem
import Derived.Laws.Tables
import Derived.RangeFuncSeq
section
/- A small abstract machine over the kit's operations: values without addresses, an interpreter in continuation form. Conditions: none. -/
namespace Go.Vm

/-- Data: trees, never changed. -/
inductive D where
  | bool (b : Bool)
  | int (k : IntKind) (n : Int)
  | str (s : List UInt8)
  | list (sz : Nat) (l : List D)
  | agg (cs : List D)
  | nilp | nilm | nilf | nili
  | fn (f : Nat)
  | iptr (cs : List D) (off : Nat)
  | iface (t : Nat) (x : D)
  deriving Inhabited, Repr

/-- Values of the machine: data; a slice that may be appended to; references. -/
inductive Val where
  | undef
  | d (x : D)
  | own (sz : Nat) (l : List D)
  | lref (t off : Nat)
  | ptr (i off : Nat)
  | map (i : Nat)
  | sl (i off len cap sz : Nat)
  | func (f : Nat) (first caps : List Val)
  | agg (cs : List Val)
  | tuple (vs : List Val)
  | yl (i : Nat)
  deriving Inhabited, Repr

inductive Ob where
  | box (cs : List Val)
  | map (es : List (D × Val))
  | dead
  deriving Inhabited, Repr

abbrev Store := List Ob

/-- Operands. -/
inductive O where
  | t (n : Nat)
  | c (v : Val)
  | g (n : Nat)
  deriving Inhabited, Repr

/-- Instructions. -/
inductive I where
  | mv (d : Nat) (x : O)
  | tk (d s : Nat)
  | asg (d : Nat) (x : O)
  | pk (d : Nat) (c a b : O)
  | la (d : Nat) (z : List Val)
  | lb (d : Nat) (x : O) (n : Nat)
  | ha (d : Nat) (z : List Val)
  | hb (d : Nat) (x : O) (n : Nat)
  | bd (d : Nat) (z : List Val) (ps : List (Nat × Nat × O))
  | li (d : Nat) (sz : Nat) (xs : List O)
  | ll (d : Nat) (a : O) (t off n : Nat) (ag : Bool)
  | lt (d : Nat) (a : O) (t off : Nat)
  | ls (a : O) (t off : Nat) (x : O) (n : Nat)
  | hl (d : Nat) (a : O) (n : Nat) (ag : Bool)
  | ht (d : Nat) (a : O)
  | hs (a : O) (x : O) (n : Nat)
  | nc (d : Nat) (x : O)
  | bi (d : Nat) (op : BinOp) (x y : O)
  | eq (d : Nat) (neg ag : Bool) (ks : List Nat) (x y : O)
  | un (d : Nat) (op : UnOp) (x : O)
  | ci (d : Nat) (k : IntKind) (x : O)
  | cs (d : Nat) (x : O)
  | sb (d : Nat) (x : O)
  | bs (d : Nat) (x : O)
  | fa (d : Nat) (x : O) (off : Nat)
  | fd (d : Nat) (x : O) (off n : Nat) (ag : Bool)
  | ia (d : Nat) (x i : O) (sz : Nat)
  | aa (d : Nat) (x i : O) (len sz : Nat)
  | ix (d : Nat) (x i : O)
  | ss (d : Nat) (x : O) (lo hi : Option O)
  | sl (d sz : Nat) (x : O) (lo hi mx : Option O)
  | em (d : Nat) (x : O)
  | mf (d : Nat) (f : Nat) (first caps : List O)
  | cl (d : Option Nat) (f : O) (args : List O)
  | ap (d : Nat) (s : Nat) (x : O) (sz bnd : Nat)
  | ln (d : Nat) (str : Bool) (x : O)
  | ex (d : Nat) (x : O) (i : Nat)
  | mm (d : Nat)
  | lk (d : Nat) (ag : Bool) (ks : List Nat) (m k : O) (z : Val) (ok : Bool)
  | mu (ag : Bool) (ks : List Nat) (m k x : O)
  | mn (d : Nat) (lt : Bool) (x y : O)
  | nq (d : Nat) (neg : Bool) (kd : Nat) (x : O)
  | cp (d : Option Nat) (f : Nat) (args : List O)
  | x2 (d : Nat) (k : Nat) (x y : O)
  deriving Inhabited, Repr

/-- A guarded instruction. -/
structure GI where
  g : Option (Nat × Bool)
  i : I
  deriving Inhabited, Repr

inductive VC where
  | skip
  | ops (l : List GI)
  | any (l : List GI)
  | seq (a b : VC)
  | cond (c : O) (a b : VC)
  | block (i : Nat) (b : VC)
  | loop (ts bs : List Nat) (b : VC)
  | rb (x : O) (ps : List Nat) (a b : VC)
  | exit (i : Nat)
  | ret
  deriving Inhabited, Repr

inductive Res where
  | t (t : Nat)
  | o (t : Nat)
  | b (t n : Nat) (ag : Bool)
  | h (t n : Nat) (ag : Bool)
  deriving Inhabited, Repr

structure VF where
  code : VC
  res : List Res
  deriving Inhabited, Repr

/-! ### States -/

structure St where
  tm : Nat → Val
  bx : Nat → Option (List Val)
  s : Store
  deriving Inhabited

def upd {α : Type} (f : Nat → α) (k : Nat) (v : α) : Nat → α := fun j => cond (Nat.beq j k) v (f j)

def St.set (st : St) (k : Nat) (v : Val) : St := { st with tm := upd st.tm k v }
def St.setO (st : St) (k : Option Nat) (v : Val) : St := match k with | some k => st.set k v | none => st
def St.setB (st : St) (k : Nat) (v : List Val) : St := { st with bx := upd st.bx k (some v) }

/-- A copy: of a slice under construction what it holds now. -/
def snap : Val → Val
  | .own sz l => .d (.list sz l)
  | v => v

def frzC : Val → Option D
  | .d x => some x
  | .own sz l => some (.list sz l)
  | _ => none

def frzL : List Val → Option (List D)
  | [] => some []
  | v :: l => match frzC v with
    | some x => match frzL l with
      | some xs => some (x :: xs)
      | none => none
    | none => none

/-- Data, where it may be. -/
def frz : Val → Val
  | .own sz l => .d (.list sz l)
  | .agg cs => match frzL cs with
    | some ds => .d (.agg ds)
    | none => .agg (cs.map snap)
  | v => v

def toD (v : Val) : Option D := match frz v with | .d x => some x | _ => none

def D.cells : D → List D
  | .agg cs => cs
  | x => [x]

/-- Does it take one cell? -/
def oneD : D → Bool
  | .agg _ => false
  | _ => true

def isAg : Bool → D → Bool
  | true, .agg _ => true
  | false, .agg _ => false
  | b, _ => !b

def cellsOf : Val → List Val
  | .agg cs => cs
  | .d (.agg cs) => cs.map .d
  | v => [v]

def isAggV : Val → Bool
  | .agg _ | .d (.agg _) => true
  | _ => false

def byteD (b : UInt8) : D := .int .u8 b.toNat

/-- The elements of a slice. -/
def listS : Val → Option (Nat × List D)
  | .d (.list sz l) => some (sz, l)
  | .own sz l => some (sz, l)
  | _ => none

/-- The elements of what may be appended. -/
def listOf : Val → Option (Nat × List D)
  | .d (.list sz l) => some (sz, l)
  | .own sz l => some (sz, l)
  | .d (.str s) => some (1, s.map byteD)
  | _ => none

/-! ### References -/

def refs : Nat → Val → List Nat
  | _, .ptr i _ => [i]
  | _, .map i => [i]
  | _, .sl i _ _ _ _ => [i]
  | n + 1, .func _ a c => (a ++ c).flatMap (refs n)
  | n + 1, .agg cs => cs.flatMap (refs n)
  | n + 1, .tuple cs => cs.flatMap (refs n)
  | _, _ => []

def depth : Nat := 5

def Ob.refs : Ob → List Nat
  | .box cs => cs.flatMap (Vm.refs depth)
  | .map es => es.flatMap fun e => Vm.refs depth e.2
  | .dead => []

def ren (f : Nat → Nat) : Nat → Val → Val
  | _, .ptr i o => .ptr (f i) o
  | _, .map i => .map (f i)
  | _, .sl i o l c z => .sl (f i) o l c z
  | n + 1, .func g a c => .func g (a.map (ren f n)) (c.map (ren f n))
  | n + 1, .agg cs => .agg (cs.map (ren f n))
  | n + 1, .tuple cs => .tuple (cs.map (ren f n))
  | 0, .func _ _ _ => .undef
  | 0, .agg _ => .undef
  | 0, .tuple _ => .undef
  | _, .undef => .undef
  | _, .d x => .d x
  | _, .own sz l => .own sz l
  | _, .lref _ _ => .undef
  | _, .yl _ => .undef

def Ob.ren (f : Nat → Nat) : Ob → Ob
  | .box cs => .box (cs.map (Vm.ren f depth))
  | .map es => .map (es.map fun e => (e.1, Vm.ren f depth e.2))
  | .dead => .dead

def elemB (i : Nat) : List Nat → Bool
  | [] => false
  | j :: l => cond (Nat.beq i j) true (elemB i l)

def idxIn (i : Nat) : List Nat → Nat
  | [] => 0
  | j :: l => cond (Nat.beq i j) 0 (idxIn i l + 1)

/-- All objects that are reached, in the order in which they are met. -/
def reach (s : Store) : Nat → List Nat → List Nat → List Nat
  | 0, _, acc => acc
  | _ + 1, [], acc => acc
  | n + 1, i :: todo, acc => cond (elemB i acc) (reach s n todo acc) (reach s n (todo ++ (s.getD i .dead).refs) (acc ++ [i]))

def nodupB : List Nat → Bool
  | [] => true
  | i :: l => !elemB i l && nodupB l

/-- Is all that is reached among them? -/
def closed (s : Store) (ids : List Nat) (args : List Val) : Bool :=
  (args.flatMap (refs depth)).all (fun i => elemB i ids) && ids.all fun i => (s.getD i .dead).refs.all fun j => elemB j ids

def back (ids : List Nat) (len : Nat) (i : Nat) : Nat := match ids[i]? with | some j => j | none => len + (i - ids.length)

def merge (s : Store) : List Nat → List Ob → Store
  | _, [] => s
  | [], l => s ++ l
  | i :: ids, o :: l => merge (s.set i o) ids l

def refsOk (n : Nat) (l : List Nat) : Bool := l.all fun i => Nat.blt i n

/-- Does a value lead to none but the first 'm' objects? -/
def okR (m : Nat) : Nat → Val → Bool
  | _, .ptr i _ => Nat.blt i m
  | _, .map i => Nat.blt i m
  | _, .sl i _ _ _ _ => Nat.blt i m
  | n + 1, .func _ a c => (a ++ c).all (okR m n)
  | n + 1, .agg cs => cs.all (okR m n)
  | n + 1, .tuple cs => cs.all (okR m n)
  | 0, .func _ _ _ => false
  | 0, .agg _ => false
  | 0, .tuple _ => false
  | _, .yl i => Nat.blt i m
  | _, _ => true

def Ob.okR (m : Nat) : Ob → Bool
  | .box cs => cs.all (Vm.okR m depth)
  | .map es => es.all fun e => Vm.okR m depth e.2
  | .dead => true

def gc (n : Nat) (r : Val) (s : Store) : Store :=
  cond (okR n depth r && (s.take n).all (Ob.okR n)) (s.take n) s

def noL : Nat → Val → Bool
  | _, .lref _ _ => false
  | _, .undef => false
  | _, .yl _ => false
  | n + 1, .func _ a c => (a ++ c).all (noL n)
  | n + 1, .agg cs => cs.all (noL n)
  | n + 1, .tuple cs => cs.all (noL n)
  | 0, .func _ _ _ => false
  | 0, .agg _ => false
  | 0, .tuple _ => false
  | _, _ => true

/-- May a value lie in one cell? -/
def oneC : Val → Bool
  | .undef | .lref _ _ | .agg _ | .tuple _ | .d (.agg _) | .yl _ => false
  | _ => true

def cellOk (v : Val) : Bool := oneC v && noL depth v

/-! ### Equality of scalars -/

/-- Cells of told kinds (0: bool, 1: integer, 2: string) held against each other. -/
def eqK : List Nat → List D → List D → Option Bool
  | [], [], [] => some true
  | k :: ks, a :: x, b :: y => match k, a, b with
    | 0, .bool p, .bool q => (eqK ks x y).map ((p == q) && ·)
    | 1, .int i p, .int j q => cond (decide (i = j)) ((eqK ks x y).map (decide (p = q) && ·)) none
    | 2, .str p, .str q => (eqK ks x y).map (decide (p = q) && ·)
    | _, _, _ => none
  | _, _, _ => none

def bytesLess : List UInt8 → List UInt8 → Bool
  | _, [] => false
  | [], _ :: _ => true
  | a :: x, b :: y => decide (a < b) || (decide (a = b) && bytesLess x y)

/-- Operations of two on integers and strings; the Bool: is it allowed? -/
def intOp (op : BinOp) (k : IntKind) (a b : Int) : Option (Bool × D) :=
  match op with
  | .add => some (true, .int k (k.wrap (a + b)))
  | .sub => some (true, .int k (k.wrap (a - b)))
  | .mul => some (true, .int k (k.wrap (a * b)))
  | .quo => some (decide (b ≠ 0), .int k (k.wrap (a.tdiv b)))
  | .rem => some (decide (b ≠ 0), .int k (a.tmod b))
  | .and => some (true, .int k (k.wrap (BitVec.ofInt k.bits a &&& BitVec.ofInt k.bits b).toNat))
  | .or => some (true, .int k (k.wrap (BitVec.ofInt k.bits a ||| BitVec.ofInt k.bits b).toNat))
  | .xor => some (true, .int k (k.wrap (BitVec.ofInt k.bits a ^^^ BitVec.ofInt k.bits b).toNat))
  | .andNot => some (true, .int k (k.wrap (BitVec.ofInt k.bits a &&& ~~~ BitVec.ofInt k.bits b).toNat))
  | .eql => some (true, .bool (decide (a = b)))
  | .neq => some (true, .bool (!decide (a = b)))
  | .lss => some (true, .bool (decide (a < b)))
  | .leq => some (true, .bool (decide (a ≤ b)))
  | .gtr => some (true, .bool (decide (b < a)))
  | .geq => some (true, .bool (decide (b ≤ a)))
  | _ => none

def shOp (op : BinOp) (k : IntKind) (a b : Int) : Option D :=
  match op with
  | .shl => some (.int k (k.wrap (a * 2 ^ (min b.toNat k.bits))))
  | .shr => some (.int k (a.fdiv (2 ^ (min b.toNat k.bits))))
  | _ => none

def maxStr : Nat := 4611686018427387904

def strOp (op : BinOp) (a b : List UInt8) : Option (Bool × D) :=
  match op with
  | .add => some (decide (a.length + b.length ≤ maxStr), .str (a ++ b))
  | .eql => some (true, .bool (decide (a = b)))
  | .neq => some (true, .bool (!decide (a = b)))
  | .lss => some (true, .bool (bytesLess a b))
  | .leq => some (true, .bool (bytesLess a b || decide (a = b)))
  | .gtr => some (true, .bool (!(bytesLess a b || decide (a = b))))
  | .geq => some (true, .bool (!bytesLess a b))
  | _ => none

/-- The order of two texts. -/
def cmpS : List UInt8 → List UInt8 → Int
  | [], [] => 0
  | [], _ :: _ => -1
  | _ :: _, [] => 1
  | a :: as, b :: bs => cond (decide (a < b)) (-1) (cond (decide (b < a)) 1 (cmpS as bs))

/-- Functions without a body, of two texts. -/
def ext2 : Nat → List UInt8 → List UInt8 → Option D
  | 0, a, b => some (.int .i64 (cmpS a b))
  | _, _, _ => none

/-! ### The interpreter -/

inductive Ex where
  | normal | exit (i : Nat) | ret
  deriving Inhabited, Repr

structure Alg (R : Type) where
  fail : R
  guard : Bool → R → R
  call : Nat → List Val → Store → (Val → Store → R) → R
  fix : (St → (St → R) → R) → St → R
  both : R → R → R
  iter : Nat → (VF → R) → R

section
variable {R : Type} (A : Alg R) (gl : Nat → List D)

def ev (st : St) : O → Val
  | .t n => st.tm n
  | .c v => v
  | .g n => .d (.iptr (gl n) 0)

def natOf (x : Option D) : Option Nat := match x with | some (.int _ (.ofNat n)) => some n | _ => none

/-- A whole call: the callee gets what its arguments reach, under numbers of its own. -/
def callStep (f : Nat) (args : List Val) (s : Store) (K : Val → Store → R) : R :=
  let ids := reach s (s.length + s.length + 8) (args.flatMap (refs depth)) []
  let fw := fun i => idxIn i ids
  let bk := back ids s.length
  A.guard (refsOk s.length ids && nodupB ids && closed s ids args && args.all (noL depth)) <|
  A.call f (args.map (ren fw depth)) (ids.map fun i => (s.getD i .dead).ren fw) fun r s' =>
    A.guard (Nat.ble ids.length s'.length) <|
    K (ren bk depth r) (merge s ids (s'.map (Ob.ren bk)))

/-- 'cells' read as one value. -/
def valOf (cs : List Val) (off n : Nat) (ag : Bool) : Val :=
  cond ag (frz (.agg ((cs.drop off).take n))) (snap (cs.getD off .undef))

def putCells (cs : List Val) (off : Nat) : List Val → List Val
  | [] => cs
  | v :: l => putCells (cs.set off v) (off + 1) l

def kill (st : St) : O → St
  | .t s => match st.tm s with
    | .own _ _ => st.set s .undef
    | _ => st
  | _ => st

/-- Parts laid over cells. -/
def fillP (st : St) : List Val → List (Nat × Nat × O) → Option (List Val)
  | cs, [] => some cs
  | cs, (off, n, x) :: ps =>
    let vs := cellsOf (frz (snap (ev gl st x)))
    cond (Nat.beq vs.length n && Nat.ble (off + n) cs.length && vs.all (noL depth)) (fillP st (putCells cs off vs) ps) none

def elems (st : St) (sz : Nat) : List O → Option (List D)
  | [] => some []
  | x :: xs => match toD (ev gl st x), elems st sz xs with
    | some d, some l => cond (Nat.beq d.cells.length sz && d.cells.all oneD) (some (d :: l)) none
    | _, _ => none

def bound (st : St) (dflt : Int) : Option O → Option Int
  | none => some dflt
  | some x => match ev gl st x with
    | .d (.int _ n) => some n
    | _ => none

/-- Where a key stands. -/
def findK (ag : Bool) (ks : List Nat) (k : D) : List (D × Val) → Nat → Option (Option Nat)
  | [], _ => some none
  | e :: es, i => cond (isAg ag e.1) (match eqK ks k.cells e.1.cells with
    | some true => some (some i)
    | some false => findK ag ks k es (i + 1)
    | none => none) none

def putK (es : List (D × Val)) (k : D) (v : Val) : Option Nat → List (D × Val)
  | some j => es.set j (k, v)
  | none => es ++ [(k, v)]

/-- The bytes of a list of bytes. -/
def unbytes : List D → Option (List UInt8)
  | [] => some []
  | .int .u8 n :: l => match unbytes l with
    | some s => some (UInt8.ofNat n.toNat :: s)
    | none => none
  | _ => none

def step (i : I) (st : St) (K : St → R) : R :=
  match i with
  | .mv d x => K (st.set d (snap (ev gl st x)))
  | .tk d s => K ((st.set s .undef).set d (st.tm s))
  | .asg d x => K ((kill st x).set d (ev gl st x))
  | .pk d c a b => match ev gl st c with
    | .d (.bool t) => cond t (K (st.set d (snap (ev gl st a)))) (K (st.set d (snap (ev gl st b))))
    | _ => A.fail
  | .la d z => match st.bx d with
    | none => K ((st.setB d z).set d (.lref d 0))
    | some _ => A.fail
  | .lb d x n => match st.bx d with
    | none =>
      let cs := cellsOf (snap (ev gl st x))
      A.guard (Nat.beq cs.length n && cs.all (noL depth)) (K ((st.setB d cs).set d (.lref d 0)))
    | some _ => A.fail
  | .ha d z => K ({ st with s := st.s ++ [Ob.box z] }.set d (.ptr st.s.length 0))
  | .hb d x n =>
    let cs := cellsOf (snap (ev gl st x))
    A.guard (Nat.beq cs.length n && cs.all (noL depth)) (K ({ st with s := st.s ++ [Ob.box cs] }.set d (.ptr st.s.length 0)))
  | .bd d z ps => match fillP gl st z ps with
    | some cs => K (st.set d (.agg cs))
    | none => A.fail
  | .li d sz xs => match elems gl st sz xs with
    | some l => K (st.set d (.own sz l))
    | none => A.fail
  | .ll d a t off n ag => match ev gl st a, st.bx t with
    | .lref t' off', some cs =>
      A.guard (Nat.beq t' t && Nat.beq off' off && Nat.ble (off + n) cs.length) (K (st.set d (valOf cs off n ag)))
    | _, _ => A.fail
  | .lt d a t off => match ev gl st a, st.bx t with
    | .lref t' off', some cs =>
      A.guard (Nat.beq t' t && Nat.beq off' off && Nat.blt off cs.length) (K ((st.setB t (cs.set off .undef)).set d (cs.getD off .undef)))
    | _, _ => A.fail
  | .ls a t off x n => match ev gl st a, st.bx t with
    | .lref t' off', some cs =>
      let vs := cellsOf (ev gl st x)
      A.guard (Nat.beq t' t && Nat.beq off' off && Nat.beq vs.length n && Nat.ble (off + n) cs.length && vs.all cellOk) (K ((kill st x).setB t (putCells cs off vs)))
    | _, _ => A.fail
  | .hl d a n ag => match ev gl st a with
    | .ptr i off => match st.s.getD i .dead with
      | .box cs => A.guard (Nat.ble (off + n) cs.length) (K (st.set d (valOf cs off n ag)))
      | _ => A.fail
    | .d (.iptr cs off) => A.guard (Nat.ble (off + n) cs.length) (K (st.set d (.d (cond ag (.agg ((cs.drop off).take n)) (cs.getD off .nilp)))))
    | _ => A.fail
  | .ht d a => match ev gl st a with
    | .ptr i off => match st.s.getD i .dead with
      | .box cs => A.guard (Nat.blt off cs.length) (K ({ st with s := st.s.set i (.box (cs.set off .undef)) }.set d (cs.getD off .undef)))
      | _ => A.fail
    | _ => A.fail
  | .hs a x n => match ev gl st a with
    | .ptr i off => match st.s.getD i .dead with
      | .box cs =>
        let vs := cellsOf (ev gl st x)
        A.guard (Nat.beq vs.length n && Nat.ble (off + n) cs.length && vs.all cellOk) (K { kill st x with s := st.s.set i (.box (putCells cs off vs)) })
      | _ => A.fail
    | _ => A.fail
  | .nc d x => match ev gl st x with
    | .ptr i o => K (st.set d (.ptr i o))
    | .lref t o => K (st.set d (.lref t o))
    | .d (.iptr cs o) => K (st.set d (.d (.iptr cs o)))
    | .d (.fn f) => K (st.set d (.d (.fn f)))
    | .func f a c => K (st.set d (.func f a c))
    | _ => A.fail
  | .bi d op x y => match ev gl st x, ev gl st y with
    | .d (.int k a), .d (.int k' b) => match shOp op k a b with
      | some r => A.guard (decide (0 ≤ b)) (K (st.set d (.d r)))
      | none => match intOp op k a b with
        | some (ok, r) => A.guard (decide (k = k')) (A.guard ok (K (st.set d (.d r))))
        | none => A.fail
    | .d (.str a), .d (.str b) => match strOp op a b with
      | some (ok, r) => A.guard ok (K (st.set d (.d r)))
      | none => A.fail
    | _, _ => A.fail
  | .eq d neg ag ks x y => match toD (ev gl st x), toD (ev gl st y) with
    | some a, some b => A.guard (isAg ag a && isAg ag b) <| match eqK ks a.cells b.cells with
      | some r => K (st.set d (.d (.bool (cond neg (!r) r))))
      | none => A.fail
    | _, _ => A.fail
  | .un d op x => match op, ev gl st x with
    | .not, .d (.bool b) => K (st.set d (.d (.bool (!b))))
    | .neg, .d (.int k n) => K (st.set d (.d (.int k (k.wrap (0 - n)))))
    | .xor, .d (.int k n) => K (st.set d (.d (.int k (k.wrap (BitVec.ofInt k.bits (if k.signed then -1 else k.max) ^^^ BitVec.ofInt k.bits n).toNat))))
    | _, _ => A.fail
  | .ci d k x => match ev gl st x with
    | .d (.int _ n) => K (st.set d (.d (.int k (k.wrap n))))
    | _ => A.fail
  | .cs d x => match ev gl st x with
    | .d (.str s) => K (st.set d (.d (.str s)))
    | _ => A.fail
  | .sb d x => match ev gl st x with
    | .d (.str s) => K (st.set d (.d (.list 1 (s.map byteD))))
    | _ => A.fail
  | .bs d x => match listS (ev gl st x) with
    | some (_, l) => match unbytes l with
      | some s => K (st.set d (.d (.str s)))
      | none => A.fail
    | none => A.fail
  | .fa d x off => match ev gl st x with
    | .ptr i o => K (st.set d (.ptr i (o + off)))
    | .lref t o => K (st.set d (.lref t (o + off)))
    | .d (.iptr cs o) => K (st.set d (.d (.iptr cs (o + off))))
    | _ => A.fail
  | .fd d x off n ag =>
    let cs := cellsOf (ev gl st x)
    A.guard (isAggV (ev gl st x) && Nat.ble (off + n) cs.length) (K (st.set d (valOf cs off n ag)))
  | .ia d x i sz => match ev gl st i with
    | .d (.int _ n) => match ev gl st x with
      | .sl j off len _ sz' => A.guard (Nat.beq sz' sz && decide (0 ≤ n) && decide (n < len)) (K (st.set d (.ptr j (off + n.toNat * sz))))
      | v => match listS v with
        | some (sz', l) => A.guard (Nat.beq sz' sz && decide (0 ≤ n) && decide (n < l.length)) (K (st.set d (.d (.iptr (l.getD n.toNat .nilp).cells 0))))
        | none => A.fail
    | _ => A.fail
  | .aa d x i len sz => match ev gl st i with
    | .d (.int _ n) => A.guard (decide (0 ≤ n) && decide (n < len)) <| match ev gl st x with
      | .ptr j o => K (st.set d (.ptr j (o + n.toNat * sz)))
      | .lref t o => K (st.set d (.lref t (o + n.toNat * sz)))
      | .d (.iptr cs o) => K (st.set d (.d (.iptr cs (o + n.toNat * sz))))
      | _ => A.fail
    | _ => A.fail
  | .ix d x i => match ev gl st x, ev gl st i with
    | .d (.str s), .d (.int _ n) => A.guard (decide (0 ≤ n) && decide (n < s.length)) (K (st.set d (.d (byteD (s.getD n.toNat 0)))))
    | _, _ => A.fail
  | .ss d x lo hi => match ev gl st x with
    | .d (.str s) => match bound gl st 0 lo, bound gl st s.length hi with
      | some l, some h => A.guard (decide (0 ≤ l) && decide (l ≤ h) && decide (h ≤ s.length)) (K (st.set d (.d (.str ((s.drop l.toNat).take (h.toNat - l.toNat))))))
      | _, _ => A.fail
    | _ => A.fail
  | .sl d sz0 x lo hi mx => match listS (ev gl st x) with
    | some (sz, s) => match bound gl st 0 lo, bound gl st s.length hi, bound gl st s.length mx with
      | some l, some h, some m => A.guard (Nat.beq sz sz0 && decide (0 ≤ l) && decide (l ≤ h) && decide (h ≤ m) && decide (m ≤ s.length)) (K (st.set d (.d (.list sz ((s.drop l.toNat).take (h.toNat - l.toNat))))))
      | _, _, _ => A.fail
    | none => A.fail
  | .em d x => match listS (ev gl st x) with
    | some (sz, _) => K (st.set d (.own sz []))
    | none => A.fail
  | .mf d f first caps => match first, caps with
    | [], [] => K (st.set d (.d (.fn f)))
    | _, _ =>
      let as := first.map fun x => frz (snap (ev gl st x))
      let cs := caps.map fun x => frz (snap (ev gl st x))
      A.guard (as.all (noL depth) && cs.all (noL depth)) (K (st.set d (.func f as cs)))
  | .cl d f args => match ev gl st f with
    | .d (.fn f) => callStep A f (args.map fun x => frz (snap (ev gl st x))) st.s fun r s' => K ({ st with s := s' }.setO d r)
    | .func f a c => callStep A f (a ++ args.map (fun x => frz (snap (ev gl st x))) ++ c) st.s fun r s' => K ({ st with s := s' }.setO d r)
    | _ => A.fail
  | .ap d s x sz bnd => match st.tm s, listOf (ev gl st x) with
    | .own sz1 l, some (sz2, l2) =>
      A.guard (Nat.beq sz1 sz && Nat.beq sz2 sz && Nat.ble (l.length + l2.length) bnd) (K ((st.set s .undef).set d (.own sz (l ++ l2))))
    | _, _ => A.fail
  | .ln d str x => match ev gl st x with
    | .sl _ _ len _ _ => A.guard (!str) (K (st.set d (.d (.int .i64 len))))
    | .d (.str s) => A.guard str (K (st.set d (.d (.int .i64 s.length))))
    | v => match listS v with
      | some (_, l) => A.guard (!str) (K (st.set d (.d (.int .i64 l.length))))
      | none => A.fail
  | .ex d x i => match ev gl st x with
    | .tuple vs => A.guard (Nat.blt i vs.length) (K (st.set d (vs.getD i .undef)))
    | _ => A.fail
  | .mm d => K ({ st with s := st.s ++ [Ob.map []] }.set d (.map st.s.length))
  | .lk d ag ks m k z ok => match toD (ev gl st k) with
    | none => A.fail
    | some k => A.guard (isAg ag k && (eqK ks k.cells k.cells).isSome) <| match ev gl st m with
      | .d .nilm => K (st.set d (cond ok (.tuple [frz z, .d (.bool false)]) (frz z)))
      | .map i => match st.s.getD i .dead with
        | .map es => match findK ag ks k es 0 with
          | some none => K (st.set d (cond ok (.tuple [frz z, .d (.bool false)]) (frz z)))
          | some (some j) => match es[j]? with
            | some e => K (st.set d (cond ok (.tuple [e.2, .d (.bool true)]) e.2))
            | none => A.fail
          | none => A.fail
        | _ => A.fail
      | _ => A.fail
  | .mu ag ks m k x => match ev gl st m, toD (ev gl st k) with
    | .map i, some k => match st.s.getD i .dead with
      | .map es => match findK ag ks k es 0 with
        | some j => A.guard (noL depth (frz (ev gl st x)) && isAg ag k && (eqK ks k.cells k.cells).isSome) (K { st with s := st.s.set i (.map (putK es k (frz (ev gl st x)) j)) })
        | none => A.fail
      | _ => A.fail
    | _, _ => A.fail
  | .mn d lt x y => match ev gl st x, ev gl st y with
    | .d (.int k a), .d (.int k' b) => A.guard (decide (k = k')) (K (st.set d (.d (.int k (cond (cond lt (decide (b < a)) (decide (a < b))) b a)))))
    | _, _ => A.fail

  | .nq d neg kd x => match kd with
    | 0 => match listS (ev gl st x) with
      | some (_, _ :: _) => K (st.set d (.d (.bool neg)))
      | some (_, []) => A.both (K (st.set d (.d (.bool neg)))) (K (st.set d (.d (.bool (!neg)))))
      | none => A.fail
    | 1 => match ev gl st x with
      | .map _ => K (st.set d (.d (.bool neg)))
      | .d .nilm => K (st.set d (.d (.bool (!neg))))
      | _ => A.fail
    | 2 => match ev gl st x with
      | .func _ _ _ | .d (.fn _) => K (st.set d (.d (.bool neg)))
      | .d .nilf => K (st.set d (.d (.bool (!neg))))
      | _ => A.fail
    | 3 => match ev gl st x with
      | .ptr _ _ | .d (.iptr _ _) => K (st.set d (.d (.bool neg)))
      | .d .nilp => K (st.set d (.d (.bool (!neg))))
      | _ => A.fail
    | _ => A.fail
  | .x2 d k x y => match ev gl st x, ev gl st y with
    | .d (.str a), .d (.str b) => match ext2 k a b with
      | some r => K (st.set d (.d r))
      | none => A.fail
    | _, _ => A.fail
  | .cp d f args =>
    let vs := args.map fun x => frz (snap (ev gl st x))
    A.guard ((vs.flatMap (refs depth)).isEmpty && vs.all (noL depth)) <| A.call f vs [] fun r s' => A.guard (s'.isEmpty && (refs depth r).isEmpty) (K (st.setO d r))

def I.dst : I → Option Nat
  | .mv d _ | .tk d _ | .asg d _ | .pk d _ _ _ | .la d _ | .lb d _ _ | .ha d _ | .hb d _ _ | .bd d _ _ | .li d _ _ | .ll d _ _ _ _ _ | .lt d _ _ _
  | .hl d _ _ _ | .ht d _ | .nc d _ | .bi d _ _ _ | .eq d _ _ _ _ _ | .un d _ _ | .ci d _ _ | .cs d _ | .sb d _ | .bs d _ | .fa d _ _ | .fd d _ _ _ _ | .ia d _ _ _
  | .aa d _ _ _ _ | .ix d _ _ | .ss d _ _ _ | .sl d _ _ _ _ _ | .em d _ | .mf d _ _ _ | .ap d _ _ _ _ | .ln d _ _ | .ex d _ _ | .mm d | .lk d _ _ _ _ _ _ | .mn d _ _ _ | .nq d _ _ _ | .x2 d _ _ _ => some d
  | .cl d _ _ | .cp d _ _ => d
  | .ls .. | .hs .. | .mu .. => none

def steps : List GI → St → (St → R) → R
  | [], st, K => K st
  | ⟨none, i⟩ :: l, st, K => step A gl i st fun st => steps l st K
  | ⟨some (s, want), i⟩ :: l, st, K => match st.tm s with
    | .d (.bool b) => cond (cond want b (!b)) (step A gl i st fun st => steps l st K) (steps l (st.setO i.dst (.tuple [])) K)
    | .tuple [] => steps l (st.setO i.dst (.tuple [])) K
    | _ => A.fail

def mkT (tm : Nat → Val) : List Nat → Nat → Val
  | [] => fun _ => .undef
  | s :: l => upd (mkT tm l) s (tm s)

def mkB (bx : Nat → Option (List Val)) : List Nat → Nat → Option (List Val)
  | [] => fun _ => none
  | s :: l => upd (mkB bx l) s (bx s)

/-- Do all addresses of local boxes that are kept lie in boxes that are kept? -/
def keeps (tm : Nat → Val) (bs : List Nat) : List Nat → Bool
  | [] => true
  | s :: l => (match tm s with | .lref t _ => elemB t bs | _ => true) && keeps tm bs l

def okB (n : Nat) (bx : Nat → Option (List Val)) (t : Nat) : Bool := match bx t with
  | some cs => cs.all (okR n depth)
  | none => true

/-- At a loop's head: only what lives is kept. -/
def forgot (n : Nat) (ts bs : List Nat) (st : St) : St :=
  ⟨mkT st.tm ts, mkB st.bx bs, cond (ts.all (fun t => okR n depth (st.tm t)) && bs.all (okB n st.bx) && (st.s.take n).all (Ob.okR n)) (st.s.take n) st.s⟩
def forget (n : Nat) (ts bs : List Nat) (st : St) (K : St → R) : R :=
  A.guard (keeps st.tm bs ts) (K (forgot n ts bs st))

def cool : Val → Val
  | .own sz l => .d (.list sz l)
  | .lref _ _ => .undef
  | v => v

/-- What a round of a range over a function sees of its function's frame. -/
def St.cool (st : St) : St := ⟨fun t => Vm.cool (st.tm t), fun _ => none, st.s⟩

def setPs (tm : Nat → Val) : List Nat → List Val → Nat → Val
  | p :: ps, v :: vs => setPs (upd tm p v) ps vs
  | _, _ => tm

def initT : List Val → Nat → Nat → Val
  | [], _ => fun _ => .tuple []
  | v :: l, n => upd (initT l (n + 1)) n v

/-! ### An iterator's code -/

/-- What a round does: the values, the store; none: it goes on; else how the loop is left. -/
abbrev Yd (R : Type) := List Val → Store → (Option Ex → Store → R) → R

def yieldY (Y : Yd R) (d : Option Nat) (args : List O) (st : St) (p : Option Ex) (K : St → Option Ex → R) : R :=
  A.guard (p.isNone && (args.map fun x => frz (snap (ev gl st x))).all (noL depth)) <|
  Y (args.map fun x => frz (snap (ev gl st x))) st.s fun p' s' => K ({ st.cool with s := s' }.setO d (.d (.bool p'.isNone))) p'

def calledV (st : St) : I → Val
  | .cl _ f _ => ev gl st f
  | _ => .undef

/-- 'yi': the object that stands for the loop. -/
def stepY (Y : Yd R) (yi : Nat) (i : I) (st : St) (p : Option Ex) (K : St → Option Ex → R) : R :=
  match calledV gl st i, i with
  | .yl j, .cl d _ args => A.guard (Nat.beq j yi) (yieldY A gl Y d args st p K)
  | _, i => step A gl i st fun st => K st p

def stepsY (Y : Yd R) (yi : Nat) : List GI → St → Option Ex → (St → Option Ex → R) → R
  | [], st, p, K => K st p
  | ⟨none, i⟩ :: l, st, p, K => stepY A gl Y yi i st p fun st p => stepsY Y yi l st p K
  | ⟨some (s, want), i⟩ :: l, st, p, K => match st.tm s with
    | .d (.bool b) => cond (cond want b (!b)) (stepY A gl Y yi i st p fun st p => stepsY Y yi l st p K) (stepsY Y yi l (st.setO i.dst (.tuple [])) p K)
    | .tuple [] => stepsY Y yi l (st.setO i.dst (.tuple [])) p K
    | _ => A.fail

def runY (Y : Yd R) (yi : Nat) : VC → St → Option Ex → (Ex → St → Option Ex → R) → R
  | .skip, st, p, K => K .normal st p
  | .ops l, st, p, K => stepsY A gl Y yi l st p (K .normal)
  | .any l, st, p, K => steps A gl l st fun st => K .normal st p
  | .seq a b, st, p, K => runY Y yi a st p fun x st p => match x with
    | .normal => runY Y yi b st p K
    | x => K x st p
  | .cond c a b, st, p, K => match ev gl st c with
    | .d (.bool t) => cond t (runY Y yi a st p K) (runY Y yi b st p K)
    | _ => A.fail
  | .block i b, st, p, K => runY Y yi b st p fun x st p => match x with
    | .exit j => cond (Nat.beq j i) (K .normal st p) (K (.exit j) st p)
    | x => K x st p
  | .loop ts bs b, st, p, K => A.guard p.isNone <| forget A st.s.length ts bs st fun st0 =>
    A.fix (fun st1 rec => runY Y yi b st1 none fun x st p => match x with
      | .normal => A.guard p.isNone (forget A st1.s.length ts bs st rec)
      | x => K x st p) st0
  | .rb _ _ _ _, _, _, _ => A.fail
  | .exit i, st, p, K => K (.exit i) st p
  | .ret, st, p, K => K .ret st p

/-- A round: the assignment, then the body. -/
def roundY (ra rb : St → (Ex → St → R) → R) (ps : List Nat) (st0 : St) : Yd R := fun vs s KB =>
  A.guard (Nat.beq vs.length ps.length) <| ra { st0 with tm := setPs st0.tm ps vs, s := s } fun e st1 => match e with
    | .normal => rb st1 fun e st2 => match e with
      | .normal => KB none st2.s
      | e => KB (some e) st2.s
    | _ => A.fail

/-- The iterator's run. -/
def iterY (ra rb : St → (Ex → St → R) → R) (ps : List Nat) (g : Nat) (caps : List Val) (st : St) (K : Ex → St → R) : R :=
  A.iter g fun vf => A.guard vf.res.isEmpty <|
    runY A gl (roundY A ra rb ps st.cool) st.s.length vf.code { tm := initT (.yl st.s.length :: caps) 0, bx := fun _ => none, s := st.s ++ [.dead] } none fun e stY p => match e with
      | .exit _ => A.fail
      | _ => K (p.getD .normal) { st.cool with s := stY.s }

def run : VC → St → (Ex → St → R) → R
  | .skip, st, K => K .normal st
  | .ops l, st, K => steps A gl l st (K .normal)
  | .any l, st, K => steps A gl l st (K .normal)
  | .seq a b, st, K => run a st fun x st => match x with
    | .normal => run b st K
    | x => K x st
  | .cond c a b, st, K => match ev gl st c with
    | .d (.bool t) => cond t (run a st K) (run b st K)
    | _ => A.fail
  | .block i b, st, K => run b st fun x st => match x with
    | .exit j => cond (Nat.beq j i) (K .normal st) (K (.exit j) st)
    | x => K x st
  | .loop ts bs b, st, K => forget A st.s.length ts bs st fun st0 =>
    A.fix (fun st1 rec => run b st1 fun x st => match x with
      | .normal => forget A st1.s.length ts bs st rec
      | x => K x st) st0
  | .rb x ps a b, st, K => match ev gl st x with
    | .func g [] caps => iterY A gl (run a) (run b) ps g caps st K
    | .d (.fn g) => iterY A gl (run a) (run b) ps g [] st K
    | _ => A.fail
  | .exit i, st, K => K (.exit i) st
  | .ret, st, K => K .ret st

def resOf (st : St) : Res → Option Val
  | .t t => some (frz (st.tm t))
  | .o t => some (st.tm t)
  | .b t n ag => match st.tm t with
    | .lref t' 0 => match st.bx t' with
      | some cs => cond (Nat.ble n cs.length) (some (valOf cs 0 n ag)) none
      | none => none
    | _ => none
  | .h t n ag => match st.tm t with
    | .ptr i off => match st.s.getD i .dead with
      | .box cs => cond (Nat.ble (off + n) cs.length) (some (valOf cs off n ag)) none
      | _ => none
    | _ => none

def resAll (st : St) : List Res → Option (List Val)
  | [] => some []
  | r :: l => match resOf st r, resAll st l with
    | some v, some vs => some (frz v :: vs)
    | _, _ => none

def resVal (st : St) : List Res → Option Val
  | [r] => resOf st r
  | l => (resAll st l).map .tuple

def runF (fn : VF) (args : List Val) (s : Store) (K : Val → Store → R) : R :=
  run A gl fn.code { tm := initT args 0, bx := fun _ => none, s } fun x st => match x with
    | .exit _ => A.fail
    | _ => match resVal st fn.res with
      | some r => A.guard (noL depth r) (K r (gc s.length r st.s))
      | none => A.fail

end

end Go.Vm
end

section
/- The translation of the kit's operations into the small machine's instructions. Conditions: none. -/
namespace Go.Vm

/-- What the author says of a function: which reads hand ownership on; which variables are objects; what lives at each loop's head. -/
structure Ann where
  take : List Nat := []
  heap : List Nat := []
  live : List (List Nat × List Nat) := []
  pure : List Nat := []
  own : Bool := false
  deriving Inhabited, Repr

section
variable (P : Program)

def szOf (t : Nat) : Option Nat := (P.info? t).map (·.size)
def bytesOf (t : Nat) : Option Nat := (P.info? t).map (·.bytes)
def aggOf (t : Nat) : Option Bool := match P.underlying t with
  | some (.struct _) => some true
  | some (.array _ _) => some true
  | some _ => some false
  | none => none

/-- Does the machine's cell stand for this cell in every world? -/
def cellRel : Value → Val → Bool
  | .bool a, .d (.bool b) => a == b
  | .int k n, .d (.int k' n') => decide (k = k') && decide (n = n')
  | .string s, .d (.str l) => decide (s.data.toList = l)
  | .pointer none, .d .nilp => true
  | .map none, .d .nilm => true
  | .nilFunc, .d .nilf => true
  | .nilIface, .d .nili => true
  | .slice _ 0 0, .own _ [] => true
  | .func (.func f) a c, .d (.fn g) => decide (f = g) && a.isEmpty && c.isEmpty
  | _, _ => false

def constRel : Value → Val → Bool
  | .agg vs, .agg cs => decide (vs.size = cs.length) && (vs.toList.zip cs).all fun p => cellRel p.1 p.2
  | .tuple vs, .tuple [] => vs.isEmpty
  | v, x => cellRel v x

/-- The zero cells of a type, with the sizes of the slices' elements. -/
def zerosOf : Nat → Nat → Option (List Val)
  | 0, _ => none
  | n + 1, t => match P.underlying t with
    | some .bool => some [.d (.bool false)]
    | some (.int k) => some [.d (.int k 0)]
    | some .string => some [.d (.str [])]
    | some (.slice e) => (szOf P e).map fun s => [.own s []]
    | some (.pointer _) => some [.d .nilp]
    | some (.map _ _) => some [.d .nilm]
    | some (.func _ _ _) => some [.d .nilf]
    | some (.interface _) => some [.d .nili]
    | some (.struct fs) => (fs.toList.mapM fun f => zerosOf n f.type).map List.flatten
    | some (.array k e) => (zerosOf n e).map fun z => (List.replicate k z).flatten
    | _ => none

/-- The zero cells of a type, held against the zero value that the table tells. -/
def zeros (t : Nat) : Option (List Val) := do
  let cs ← zerosOf P 20 t
  let i ← P.info? t
  let z ← i.zero
  if decide (z.cells.size = cs.length) && decide (i.size = cs.length) && (z.cells.toList.zip cs).all (fun p => cellRel p.1 p.2) then some cs else none

/-- A constant, with the type that it has there. -/
def constV0 (t : Nat) (v : Value) : Option Val :=
  match v with
  | .bool b => some (.d (.bool b))
  | .int k n => some (.d (.int k n))
  | .string s => some (.d (.str s.data.toList))
  | .pointer none => some (.d .nilp)
  | .map none => some (.d .nilm)
  | .nilFunc => some (.d .nilf)
  | .nilIface => some (.d .nili)
  | .slice _ 0 0 => match P.underlying t with
    | some (.slice e) => (szOf P e).map fun s => .own s []
    | _ => some (.own 1 [])
  | .agg _ => (zeros P t).map .agg
  | .tuple vs => if vs.isEmpty then some (.tuple []) else none
  | _ => none

def constV (t : Nat) (v : Value) : Option Val :=
  match constV0 P t v with
  | some x => if constRel v x then some x else none
  | none => none

def zvOf (ag : Bool) (zs : List Val) : Val := if ag then .agg zs else zs.getD 0 .undef

/-- The zero value of a type, as one value. -/
def zeroV (t : Nat) : Option Val :=
  match zeros P t, aggOf P t, (P.info? t).bind (·.zero) with
  | some zs, some ag, some v =>
    if constRel v (zvOf ag zs) then some (zvOf ag zs) else none
  | _, _, _ => none

def opd (t : Nat) : Operand → Option O
  | .tmp n => some (.t n)
  | .const v => (constV P t v).map .c
  | .global g => some (.g g)
  | .func f => some (.c (.d (.fn f)))

def opdO (t : Nat) : Option Operand → Option (Option O)
  | none => some none
  | some x => (opd P t x).map some

/-- The kinds of the cells of values that may be held against each other cell by cell. -/
def kindsF (k : Nat → Option (List Nat)) : List Field → Nat → Option (List Nat)
  | [], _ => some []
  | f :: fs, off => if f.name ≠ "_" ∧ f.offset = off then match k f.type with
      | some a => match kindsF k fs (off + a.length) with
        | some b => if szOf P f.type = some a.length then some (a ++ b) else none
        | none => none
      | none => none
    else none

def kinds : Nat → Nat → Option (List Nat)
  | 0, _ => none
  | n + 1, t => match P.underlying t with
    | some .bool => some [0]
    | some (.int _) => some [1]
    | some .string => some [2]
    | some (.struct fs) => if P.stoodInHeld t = false then kindsF P (kinds n) fs.toList 0 else none
    | _ => none

def isStruct (t : Nat) : Bool := match P.underlying t with
  | some (.struct _) => true
  | _ => false

/-- Where a part lies. -/
def partOf (t i : Nat) : Option (Nat × Nat) := match P.underlying t with
  | some (.struct fs) => match fs[i]? with
    | some f => (szOf P f.type).map fun s => (f.offset, s)
    | none => none
  | some (.array _ e) => (szOf P e).map fun s => (i * s, s)
  | _ => none

def partType (t i : Nat) : Nat := match P.underlying t with
  | some (.struct fs) => ((fs[i]?).map (·.type)).getD 0
  | some (.array _ e) => e
  | _ => 0

def elemOf? (t : Nat) : Option Nat := match P.underlying t with
  | some (.slice e) => some e
  | _ => none

abbrev AMap := List (Nat × Nat × Nat)

def AMap.look (m : AMap) (s : Nat) : Option (Nat × Nat) := match m with
  | [] => none
  | (k, v) :: l => cond (Nat.beq k s) (some v) (AMap.look l s)

def isZeroC : Option Operand → Bool
  | some (.const (.int _ n)) => decide (n = 0)
  | _ => false

/-- A test against nil: of which kind. -/
def nilKind : TypeDesc → Operand → Option Nat
  | .slice _, .const (.slice none 0 0) => some 0
  | .map _ _, .const (.map none) => some 1
  | .func _ _ _, .const .nilFunc => some 2
  | .pointer _, .const (.pointer none) => some 3
  | _, _ => none

/-- Which function without a body is it? -/
def extK (g : Nat) : Option Nat := match P.funcs[g]? with
  | some fn => if fn.body.isNone && fn.name == "internal/bytealg.abigen_runtime_cmpstring" && fn.origin == "" then some 0 else none
  | none => none

/-- One operation. -/
def compOp (an : Ann) (m : AMap) (o : Oper) : Option I := do
  match o.op, o.dst with
  | .move x, some d =>
    if elemB d an.take then match x with
      | .tmp s => some (.tk d s)
      | _ => none
    else (opd P o.type x).map (.mv d)
  | .assign x, some d => (opd P o.type x).map (.asg d)
  | .pick c a b, some d => do some (.pk d (← opd P 0 c) (← opd P o.type a) (← opd P o.type b))
  | .alloc e, some d => do
    let z ← zeros P e
    some (if elemB d an.heap then .ha d z else .la d z)
  | .box e x, some d => do
    let n ← szOf P e
    let x ← opd P e x
    some (if elemB d an.heap then .hb d x n else .lb d x n)
  | .build t ps, some d => do
    let z ← zeros P t
    let ps ← ps.toList.mapM fun (i, x) => do
      let (off, n) ← partOf P t i
      some (off, n, ← opd P (partType P t i) x)
    if (P.underlying t).any (·.isRow) then some (.bd d z ps) else none
  | .buildSlice t len ps, some d => do
    let e ← elemOf? P t
    let n ← szOf P e
    let _ ← zeros P e
    if decide (ps.toList.map (·.1) = List.range len) && decide (len * n ≤ 2 ^ 24) && decide (0 < n) then
      some (.li d n (← ps.toList.mapM fun (_, x) => opd P e x))
    else none
  | .load t a, some d => do
    let n ← szOf P t
    let ag ← aggOf P t
    let x ← opd P 0 a
    let at_ : Option (Nat × Nat) := match a with | .tmp s => m.look s | _ => none
    if ag || decide (n = 1) then
      match elemB d an.take && !ag, at_ with
      | false, some (b, off) => some (.ll d x b off n ag)
      | false, none => some (.hl d x n ag)
      | true, some (b, off) => some (.lt d x b off)
      | true, none => some (.ht d x)
    else none
  | .store t a x, none => do
    let n ← szOf P t
    let y ← opd P 0 a
    let z ← opd P t x
    match a with
    | .tmp s => match m.look s with
      | some (b, off) => some (.ls y b off z n)
      | none => some (.hs y z n)
    | _ => none
  | .nilCheck x, some d => (opd P 0 x).map (.nc d)
  | .binOp op t x y u, some d => do
    let a ← opd P t x
    let b ← opd P u y
    match P.underlying t, op with
    | some .bool, .eql => some (.eq d false false [0] a b)
    | some .bool, .neq => some (.eq d true false [0] a b)
    | some (.struct _), .eql => if P.eqGuardType P.depth t = false then (kinds P 10 t).map fun ks => .eq d false true ks a b else none
    | some (.struct _), .neq => if P.eqGuardType P.depth t = false then (kinds P 10 t).map fun ks => .eq d true true ks a b else none
    | some (.int _), _ => some (.bi d op a b)
    | some .string, _ => some (.bi d op a b)
    | some u, .eql => (nilKind u y).map fun k => .nq d false k a
    | some u, .neq => (nilKind u y).map fun k => .nq d true k a
    | _, _ => none
  | .unOp op _ x, some d => (opd P 0 x).map (.un d op)
  | .convert src dst x, some d => do
    let a ← opd P src x
    match P.underlying src, P.underlying dst with
    | some (.int _), some (.int k) => some (.ci d k a)
    | some .string, some .string => some (.cs d a)
    | some .string, some (.slice e) => match P.underlying e with
      | some (.int .u8) => if szOf P e = some 1 then some (.sb d a) else none
      | _ => none
    | some (.slice e), some .string => match P.underlying e with
      | some (.int .u8) => if szOf P e = some 1 then some (.bs d a) else none
      | _ => none
    | _, _ => none
  | .makeFunc (.func f) first caps, some d => do
    some (.mf d f (← first.toList.mapM (opd P 0)) (← caps.toList.mapM (opd P 0)))
  | .makeMap _ none, some d => some (.mm d)
  | .slice t x lo hi mx, some d => do
    let a ← opd P t x
    match P.underlying t with
    | some .string => if mx.isNone then some (.ss d a (← opdO P 0 lo) (← opdO P 0 hi)) else none
    | some (.slice e) => do
      let n ← szOf P e
      if lo.isNone && isZeroC hi && isZeroC mx then some (.em d a)
      else if hi.isNone && mx.isSome then none
      else some (.sl d n a (← opdO P 0 lo) (← opdO P 0 hi) (← opdO P 0 mx))
    | _ => none
  | .fieldAddr t x f, some d => match P.underlying t with
    | some (.struct fs) => match fs[f]? with
      | some f => if (szOf P f.type).any (fun n => decide (0 < n)) then (opd P 0 x).map fun x => .fa d x f.offset else none
      | none => none
    | _ => none
  | .field t x f, some d => match P.underlying t with
    | some (.struct fs) => match fs[f]? with
      | some f => do
        let n ← szOf P f.type
        let ag ← aggOf P f.type
        let a ← opd P 0 x
        if ag || decide (n = 1) then some (.fd d a f.offset n ag) else none
      | none => none
    | _ => none
  | .indexAddr t x i, some d => do
    let a ← opd P t x
    let j ← opd P 0 i
    match P.underlying t with
    | some (.slice e) => do
      let n ← szOf P e
      if decide (0 < n) then some (.ia d a j n) else none
    | some (.array len e) => do
      let n ← szOf P e
      if decide (0 < n) then some (.aa d a j len n) else none
    | _ => none
  | .index t x i, some d => do
    let a ← opd P t x
    let j ← opd P 0 i
    match P.underlying t with
    | some .string => some (.ix d a j)
    | _ => none
  | .lookup t x k ok, some d => do
    let a ← opd P t x
    match P.underlying t with
    | some (.map kt et) => do
      let b ← opd P kt k
      let zv ← zeroV P et
      let ks ← kinds P 10 kt
      some (.lk d (isStruct P kt) ks a b zv ok)
    | _ => none
  | .mapUpdate t x k v, none => do
    let a ← opd P t x
    match P.underlying t with
    | some (.map kt et) => do
      let ks ← kinds P 10 kt
      some (.mu (isStruct P kt) ks a (← opd P kt k) (← opd P et v))
    | _ => none
  | .extract x i, some d => (opd P 0 x).map fun x => .ex d x i
  | .call c, d => match c.callee with
    | .value f => do
      let as ← (c.args.toList.zipIdx).mapM fun (x, i) => opd P (c.argTypes.getD i 0) x
      match f with
      | .func g => match extK P g, as, d with
        | some k, [x, y], some d => some (.x2 d k x y)
        | _, as, d => if elemB g an.pure then some (.cp d g as) else some (.cl d (.c (.d (.fn g))) as)
      | _ => some (.cl d (← opd P 0 f) as)
    | .builtin .len => match c.args.toList, c.argTypes.toList, d with
      | [x], [t], some d => match P.underlying t with
        | some .string => (opd P t x).map (.ln d true)
        | some (.slice _) => (opd P t x).map (.ln d false)
        | _ => none
      | _, _, _ => none
    | .builtin .append => match c.args.toList, c.argTypes.toList, d with
      | [.tmp s, x], [t, u], some d => do
        let e ← elemOf? P t
        let n ← szOf P e
        let b ← bytesOf P e
        let _ ← zeros P e
        let okU : Bool := match P.underlying u with
          | some (.slice _) | some .string => true
          | _ => false
        if okU && decide (0 < n) && decide (0 < b) then some (.ap d s (← opd P u x) n (140737488355328 / b)) else none
      | _, _, _ => none
    | .builtin .max => match c.args.toList, d with
      | [x, y], some d => do some (.mn d false (← opd P o.type x) (← opd P o.type y))
      | _, _ => none
    | .builtin .min => match c.args.toList, d with
      | [x, y], some d => do some (.mn d true (← opd P o.type x) (← opd P o.type y))
      | _, _ => none
    | _ => none
  | _, _ => none

/-- What an operation tells of addresses. -/
def amapOf (m : AMap) (o : Oper) : AMap := match o.op, o.dst with
  | .fieldAddr t (.tmp s) f, some d => match m.look s, partOf P t f with
    | some (b, off), some (o, _) => (d, b, off + o) :: m
    | _, _ => m
  | _, _ => m

def compGuard (ops : Array Oper) (o : Oper) : Option (Option (Nat × Bool)) := match o.guard with
  | none => some none
  | some (j, w) => match (ops[j]?).bind (·.dst) with
    | some s => some (some (s, w))
    | none => none

def dstOk (nt : Nat) (o : Oper) : Bool := match o.dst with
  | some d => Nat.blt d nt
  | none => true

def compOps (an : Ann) (nt : Nat) (all : Array Oper) : AMap → List Oper → Option (List GI)
  | _, [] => some []
  | m, o :: l => match compOp P an m o, compGuard all o, compOps an nt all (amapOf P m o) l with
    | some i, some g, some is => if dstOk nt o && decide (i.dst = o.dst) then some (⟨g, i⟩ :: is) else none
    | _, _, _ => none

/-- Boxes of a function that are kept in its frame: what allocates them, but for those that are objects. -/
def boxes (an : Ann) : Code → AMap
  | .region _ ops _ => ops.toList.filterMap fun o => match o.op, o.dst with
    | .alloc _, some d | .box _ _, some d => if elemB d an.heap then none else some (d, d, 0)
    | _, _ => none
  | .seq a b => boxes an a ++ boxes an b
  | .cond _ a b => boxes an a ++ boxes an b
  | .block _ b => boxes an b
  | .loop b => boxes an b
  | _ => []

/-! ### Regions that draw their order -/

def O.slots : O → List Nat
  | .t n => [n]
  | _ => []

def oSlots : Option O → List Nat
  | some x => x.slots
  | none => []

def lSlots (l : List O) : List Nat := l.flatMap O.slots

/-- The slots that an instruction reads. -/
def I.rd : I → List Nat
  | .mv _ x | .asg _ x | .lb _ x _ | .hb _ x _ | .ll _ x _ _ _ _ | .lt _ x _ _ | .hl _ x _ _ | .ht _ x | .nc _ x | .un _ _ x | .ci _ _ x | .cs _ x | .sb _ x | .bs _ x | .fa _ x _ | .fd _ x _ _ _ | .em _ x | .ln _ _ x | .ex _ x _
  | .nq _ _ _ x => x.slots
  | .tk _ s => [s]
  | .pk _ c a b => c.slots ++ a.slots ++ b.slots
  | .la _ _ | .ha _ _ | .mm _ => []
  | .bd _ _ ps => ps.flatMap fun q => q.2.2.slots
  | .li _ _ xs => lSlots xs
  | .ls a _ _ x _ | .hs a x _ => a.slots ++ x.slots
  | .bi _ _ x y | .eq _ _ _ _ x y | .ia _ x y _ | .aa _ x y _ _ | .ix _ x y | .mn _ _ x y | .x2 _ _ x y => x.slots ++ y.slots
  | .ss _ x lo hi => x.slots ++ oSlots lo ++ oSlots hi
  | .sl _ _ x lo hi mx => x.slots ++ oSlots lo ++ oSlots hi ++ oSlots mx
  | .mf _ _ xs ws => lSlots xs ++ lSlots ws
  | .cl _ f xs => f.slots ++ lSlots xs
  | .cp _ _ xs => lSlots xs
  | .ap _ s x _ _ => s :: x.slots
  | .lk _ _ _ m k _ _ => m.slots ++ k.slots
  | .mu _ _ m k x => m.slots ++ k.slots ++ x.slots

/-- The slots that an instruction writes. -/
def I.wr (i : I) : List Nat := i.dst.toList ++ match i with
  | .tk _ s | .ap _ s _ _ _ => [s]
  | .asg _ x | .ls _ _ _ x _ | .hs _ x _ => x.slots
  | _ => []

/-- The boxes that an instruction looks at; those that it changes. -/
def I.brd : I → List Nat
  | .la d _ | .lb d _ _ => [d]
  | .ll _ _ t _ _ _ | .lt _ _ t _ | .ls _ t _ _ _ => [t]
  | _ => []

def I.bwr : I → List Nat
  | .la d _ | .lb d _ _ => [d]
  | .lt _ _ t _ | .ls _ t _ _ _ => [t]
  | _ => []

/-- Does it look at the store? Does it change it? -/
def I.rs : I → Bool
  | .ha .. | .hb .. | .hl .. | .ht .. | .hs .. | .mm .. | .lk .. | .mu .. | .cl .. => true
  | _ => false

def I.ws : I → Bool
  | .ha .. | .hb .. | .ht .. | .hs .. | .mm .. | .mu .. | .cl .. => true
  | _ => false

def GI.rd (g : GI) : List Nat := (match g.g with | some (s, _) => [s] | none => []) ++ g.i.rd

def disj (a b : List Nat) : Bool := a.all fun x => !elemB x b

def indep (x y : GI) : Bool :=
  disj x.i.wr (y.rd ++ y.i.wr) && disj y.i.wr x.rd && disj x.i.bwr (y.i.brd ++ y.i.bwr) && disj y.i.bwr x.i.brd && !(x.i.ws && y.i.rs) && !(y.i.ws && x.i.rs)

def onPath (ops : Array Oper) (i : Nat) : Nat → Nat → Bool
  | 0, _ => false
  | n + 1, j => match ops[j]? with
    | some o => o.after.toList.any fun e => Region.binds .any e && (Nat.beq e.on i || onPath ops i n e.on)
    | none => false

def backEdges (ops : Array Oper) : Bool := (List.range ops.size).all fun j => match ops[j]? with
  | some o => o.after.toList.all fun e => !Region.binds .any e || Nat.blt e.on j
  | none => true

def badPairs (ops : Array Oper) (is : List GI) : List (Nat × Nat) :=
  is.zipIdx.flatMap fun (y, j) => (is.zipIdx.take j).filterMap fun (x, i) => if indep x y || onPath ops i ops.size j then none else some (i, j)

def twoWays : I → Bool
  | .nq _ _ k _ => Nat.beq k 0
  | _ => false

def pairOk (ops : Array Oper) (is : List GI) (i j : Nat) : Bool := match is[i]?, is[j]? with
  | some x, some y => indep x y || onPath ops i ops.size j
  | _, _ => true

def anyOk (ops : Array Oper) (is : List GI) : Bool :=
  P.follows .mixedOrders && backEdges ops && is.all (fun g => !twoWays g.i) && (List.range ops.size).all fun j => (List.range j).all fun i => pairOk ops is i j

/-- Code without loops, drawn orders and ranges over functions. -/
def plainV : VC → Bool
  | .skip | .ops _ | .exit _ | .ret => true
  | .seq a b => plainV a && plainV b
  | .cond _ a b => plainV a && plainV b
  | .block _ b => plainV b
  | _ => false

/-- The code; what is left of the words on loops is handed on. -/
def compC (an : Ann) (nt : Nat) (m : AMap) : Code → List (List Nat × List Nat) → Option (VC × List (List Nat × List Nat))
  | .skip, l => some (.skip, l)
  | .region _ ops drawn, l => match compOps P an nt ops m ops.toList with
    | some is => if drawn then (if anyOk P ops is then some (.any is, l) else none) else some (.ops is, l)
    | none => none
  | .seq a b, l => match compC an nt m a l with
    | some (x, l) => match compC an nt m b l with
      | some (y, l) => some (.seq x y, l)
      | none => none
    | none => none
  | .cond c a b, l => match opd P 0 c, compC an nt m a l with
    | some o, some (x, l) => match compC an nt m b l with
      | some (y, l) => some (.cond o x y, l)
      | none => none
    | _, _ => none
  | .block i b, l => match compC an nt m b l with
    | some (x, l) => some (.block i x, l)
    | none => none
  | .loop b, (ts, bs) :: l => match compC an nt m b l with
    | some (x, l) => some (.loop ts bs x, l)
    | none => none
  | .rangeFunc f ps a b, l => match opd P 0 f, compC an nt m a l, compC an nt m b l with
    | some x, some (va, _), some (vb, _) => if plainV va && plainV vb && ps.toList.all (fun p => Nat.blt p nt) then some (.rb x ps.toList va vb, l) else none
    | _, _, _ => none
  | .exit i, l => some (.exit i, l)
  | .ret, l => some (.ret, l)
  | _, _ => none

def compRes (an : Ann) : ResultVar → Option Res
  | .tmp t => some (.t t)
  | .cell t ty => do
    let n ← szOf P ty
    let ag ← aggOf P ty
    if ag || decide (n = 1) then some (if elemB t an.heap then .h t n ag else .b t n ag) else none

def compRs (an : Ann) (l : List ResultVar) : Option (List Res) := match an.own, l with
  | true, [.tmp t] => some [.o t]
  | true, _ => none
  | false, l => l.mapM (compRes P an)

def compF (an : Ann) (fn : Func) : Option VF := do
  let c ← fn.body
  let (x, _) ← compC P an fn.ntmps (boxes an c) c an.live
  let r ← compRs P an fn.results.toList
  some ⟨x, r⟩

end

end Go.Vm
end

section
/- How the machine's values read in the kit's worlds. Conditions: none. -/
namespace Go.Vm

inductive All2 {α β : Type} (R : α → β → Prop) : List α → List β → Prop
  | nil : All2 R [] []
  | cons {x : α} {y : β} {xs : List α} {ys : List β} : R x y → All2 R xs ys → All2 R (x :: xs) (y :: ys)

/-- Who may write to a block. -/
inductive Loc where
  | slot (t : Nat) | bcell (t j : Nat) | bbox (t : Nat) | ocell (i j : Nat) | obj (i : Nat) | res | foreign
  deriving DecidableEq

/-- A ghost: a block's owner, and up to where it is never written any more; none: it is never written at all. -/
abbrev Gh := Nat → Option (Loc × Nat)

def Fz (G : Gh) (b off : Nat) : Prop := ∀ L n, G b = some (L, n) → off < n

def Cell (w : World) (G : Gh) (b off : Nat) (v : Value) : Prop := w.cell? ⟨b, off, none⟩ = some v ∧ Fz G b off ∧ v.oneCell' = true

def CellsAt (w : World) (G : Gh) (b off : Nat) (vs : List Value) : Prop := ∀ j v, vs[j]? = some v → Cell w G b (off + j) v

def Keeps (w : World) (G : Gh) (w' : World) (G' : Gh) : Prop := ∀ b off v, Cell w G b off v → Cell w' G' b off v

mutual
inductive Rd (w : World) (G : Gh) : Value → D → Prop
  | bool (b : Bool) : Rd w G (.bool b) (.bool b)
  | int (k : IntKind) (n : Int) : Rd w G (.int k n) (.int k n)
  | str (s : ByteArray) (l : List UInt8) : s.data.toList = l → Rd w G (.string s) (.str l)
  | nilp : Rd w G (.pointer none) .nilp
  | nilm : Rd w G (.map none) .nilm
  | nilf : Rd w G .nilFunc .nilf
  | nili : Rd w G .nilIface .nili
  | fn (f : Nat) : Rd w G (.func (.func f) #[] #[]) (.fn f)
  | iface (t : Nat) (v : Value) (x : D) : Rd w G v x → Rd w G (.iface t v) (.iface t x)
  | agg (vs : List Value) (cs : List D) : RdL w G vs cs → Rd w G (.agg ⟨vs⟩) (.agg cs)
  | list0 (a : Option Addr) (cap sz : Nat) : Rd w G (.slice a 0 cap) (.list sz [])
  | list (b off n cap sz : Nat) (l : List D) (vs : List Value) : n = l.length → n ≤ cap → (∀ d, d ∈ l → d.cells.length = sz) → CellsAt w G b off vs → RdL w G vs (l.flatMap D.cells) →
      Rd w G (.slice (some ⟨b, off, none⟩) n cap) (.list sz l)
  | iptr (b base off : Nat) (vs : List Value) (cs : List D) : CellsAt w G b base vs → RdL w G vs cs → Rd w G (.pointer (some ⟨b, base + off, none⟩)) (.iptr cs off)
inductive RdL (w : World) (G : Gh) : List Value → List D → Prop
  | nil : RdL w G [] []
  | cons (v : Value) (x : D) (vs : List Value) (xs : List D) : Rd w G v x → RdL w G vs xs → RdL w G (v :: vs) (x :: xs)
end

section
variable {w w' : World} {G G' : Gh}

theorem CellsAt.keep (hk : Keeps w G w' G') {b off : Nat} {vs : List Value} (h : CellsAt w G b off vs) : CellsAt w' G' b off vs :=
  fun j v hv => hk _ _ _ (h j v hv)

mutual
theorem Rd.keep (hk : Keeps w G w' G') : ∀ {v : Value} {x : D}, Rd w G v x → Rd w' G' v x
  | _, _, .bool b => .bool b
  | _, _, .int k n => .int k n
  | _, _, .str s l h => .str s l h
  | _, _, .nilp => .nilp
  | _, _, .nilm => .nilm
  | _, _, .nilf => .nilf
  | _, _, .nili => .nili
  | _, _, .fn f => .fn f
  | _, _, .iface t v x h => .iface t v x (Rd.keep hk h)
  | _, _, .agg vs cs h => .agg vs cs (RdL.keep hk h)
  | _, _, .list0 a cap sz => .list0 a cap sz
  | _, _, .list b off n cap sz l vs h1 h2 h3 h4 h5 => .list b off n cap sz l vs h1 h2 h3 (h4.keep hk) (RdL.keep hk h5)
  | _, _, .iptr b base off vs cs h1 h2 => .iptr b base off vs cs (h1.keep hk) (RdL.keep hk h2)
theorem RdL.keep (hk : Keeps w G w' G') : ∀ {vs : List Value} {xs : List D}, RdL w G vs xs → RdL w' G' vs xs
  | _, _, .nil => .nil
  | _, _, .cons v x vs xs h1 h2 => .cons v x vs xs (Rd.keep hk h1) (RdL.keep hk h2)
end

theorem RdL.length {vs : List Value} {xs : List D} (h : RdL w G vs xs) : vs.length = xs.length := by
  induction vs generalizing xs with
  | nil => cases h; rfl
  | cons v vs ih => cases h with | cons _ _ _ _ _ h2 => simp [ih h2]

theorem RdL.get {vs : List Value} {xs : List D} (h : RdL w G vs xs) : ∀ {j : Nat} {v : Value} {x : D}, vs[j]? = some v → xs[j]? = some x → Rd w G v x := by
  induction vs generalizing xs with
  | nil => intro j v x hv; simp at hv
  | cons a vs ih =>
    cases h with
    | cons _ y _ ys h1 h2 =>
      intro j v x hv hx
      cases j with
      | zero => simp at hv hx; subst hv; subst hx; exact h1
      | succ j => simp at hv hx; exact ih h2 hv hx

theorem RdL.mk : ∀ {vs : List Value} {xs : List D}, vs.length = xs.length → (∀ (j : Nat) (v : Value) (x : D), vs[j]? = some v → xs[j]? = some x → Rd w G v x) → RdL w G vs xs
  | [], [], _, _ => .nil
  | [], _ :: _, h, _ => by simp at h
  | _ :: _, [], h, _ => by simp at h
  | v :: vs, x :: xs, h, hr => .cons v x vs xs (hr 0 v x rfl rfl) (RdL.mk (by simpa using h) fun j u y hu hy => hr (j + 1) u y (by simpa using hu) (by simpa using hy))

theorem RdL.append {vs us : List Value} {xs ys : List D} (h : RdL w G vs xs) (h2 : RdL w G us ys) : RdL w G (vs ++ us) (xs ++ ys) := by
  induction vs generalizing xs with
  | nil => cases h; simpa using h2
  | cons v vs ih => cases h with | cons _ _ _ _ a b => exact .cons _ _ _ _ a (ih b)

theorem RdL.drop {vs : List Value} {xs : List D} (h : RdL w G vs xs) (n : Nat) : RdL w G (vs.drop n) (xs.drop n) :=
  .mk (by simp [h.length]) fun j v x hv hx => h.get (by simpa using hv) (by simpa using hx)

theorem RdL.take {vs : List Value} {xs : List D} (h : RdL w G vs xs) (n : Nat) : RdL w G (vs.take n) (xs.take n) :=
  .mk (by simp [h.length]) fun j v x hv hx => by
    rw [List.getElem?_take] at hv hx
    split at hv
    · rename_i hj; simp only [hj, if_true] at hx; exact h.get hv hx
    · simp at hv
end

mutual
inductive RelA (w : World) (G : Gh) (ρ : List Nat) : Value → Val → Prop
  | undef (v : Value) : RelA w G ρ v .undef
  | d (v : Value) (x : D) : Rd w G v x → RelA w G ρ v (.d x)
  | nil (a : Option Addr) (sz : Nat) : RelA w G ρ (.slice a 0 0) (.own sz [])
  | ptr (i off b : Nat) : ρ[i]? = some b → RelA w G ρ (.pointer (some ⟨b, off, none⟩)) (.ptr i off)
  | map (i b : Nat) : ρ[i]? = some b → RelA w G ρ (.map (some b)) (.map i)
  | sl (i off len cap sz b : Nat) : ρ[i]? = some b → RelA w G ρ (.slice (some ⟨b, off, none⟩) len cap) (.sl i off len cap sz)
  | func (f : Nat) (as cs : List Value) (a c : List Val) : RelL w G ρ as a → RelL w G ρ cs c → RelA w G ρ (.func (.func f) ⟨as⟩ ⟨cs⟩) (.func f a c)
  | agg (vs : List Value) (cs : List Val) : RelL w G ρ vs cs → RelA w G ρ (.agg ⟨vs⟩) (.agg cs)
  | tuple (vs : List Value) (cs : List Val) : RelL w G ρ vs cs → RelA w G ρ (.tuple ⟨vs⟩) (.tuple cs)
  | yl (i l : Nat) : ρ[i]? = some l → RelA w G ρ (.func (.yield l) #[] #[]) (.yl i)
inductive RelL (w : World) (G : Gh) (ρ : List Nat) : List Value → List Val → Prop
  | nil : RelL w G ρ [] []
  | cons (v : Value) (x : Val) (vs : List Value) (xs : List Val) : RelA w G ρ v x → RelL w G ρ vs xs → RelL w G ρ (v :: vs) (x :: xs)
end

section
variable {w w' : World} {G G' : Gh} {ρ ρ' : List Nat}

mutual
theorem RelA.keep (hk : Keeps w G w' G') (hρ : ∀ i b : Nat, ρ[i]? = some b → ρ'[i]? = some b) : ∀ {v : Value} {x : Val}, RelA w G ρ v x → RelA w' G' ρ' v x
  | _, _, .undef v => .undef v
  | _, _, .d v x h => .d v x (h.keep hk)
  | _, _, .nil a sz => .nil a sz
  | _, _, .ptr i off b h => .ptr i off b (hρ _ _ h)
  | _, _, .map i b h => .map i b (hρ _ _ h)
  | _, _, .sl i off len cap sz b h => .sl i off len cap sz b (hρ _ _ h)
  | _, _, .func f as cs a c h1 h2 => .func f as cs a c (RelL.keep hk hρ h1) (RelL.keep hk hρ h2)
  | _, _, .agg vs cs h => .agg vs cs (RelL.keep hk hρ h)
  | _, _, .tuple vs cs h => .tuple vs cs (RelL.keep hk hρ h)
  | _, _, .yl i l h => .yl i l (hρ _ _ h)
theorem RelL.keep (hk : Keeps w G w' G') (hρ : ∀ i b : Nat, ρ[i]? = some b → ρ'[i]? = some b) : ∀ {vs : List Value} {xs : List Val}, RelL w G ρ vs xs → RelL w' G' ρ' vs xs
  | _, _, .nil => .nil
  | _, _, .cons v x vs xs h1 h2 => .cons v x vs xs (RelA.keep hk hρ h1) (RelL.keep hk hρ h2)
end

theorem RelL.length {vs : List Value} {xs : List Val} (h : RelL w G ρ vs xs) : vs.length = xs.length := by
  induction vs generalizing xs with
  | nil => cases h; rfl
  | cons v vs ih => cases h with | cons _ _ _ _ _ h2 => simp [ih h2]

theorem RelL.get {vs : List Value} {xs : List Val} (h : RelL w G ρ vs xs) : ∀ {j : Nat} {v : Value} {x : Val}, vs[j]? = some v → xs[j]? = some x → RelA w G ρ v x := by
  induction vs generalizing xs with
  | nil => intro j v x hv; simp at hv
  | cons a vs ih =>
    cases h with
    | cons _ y _ ys h1 h2 =>
      intro j v x hv hx
      cases j with
      | zero => simp at hv hx; subst hv; subst hx; exact h1
      | succ j => simp at hv hx; exact ih h2 hv hx

theorem RelL.mk : ∀ {vs : List Value} {xs : List Val}, vs.length = xs.length → (∀ (j : Nat) (v : Value) (x : Val), vs[j]? = some v → xs[j]? = some x → RelA w G ρ v x) → RelL w G ρ vs xs
  | [], [], _, _ => .nil
  | [], _ :: _, h, _ => by simp at h
  | _ :: _, [], h, _ => by simp at h
  | v :: vs, x :: xs, h, hr => .cons v x vs xs (hr 0 v x rfl rfl) (RelL.mk (by simpa using h) fun j u y hu hy => hr (j + 1) u y (by simpa using hu) (by simpa using hy))

theorem RelL.append {vs us : List Value} {xs ys : List Val} (h : RelL w G ρ vs xs) (h2 : RelL w G ρ us ys) : RelL w G ρ (vs ++ us) (xs ++ ys) := by
  induction vs generalizing xs with
  | nil => cases h; simpa using h2
  | cons v vs ih => cases h with | cons _ _ _ _ a b => exact .cons _ _ _ _ a (ih b)

theorem RelL.drop {vs : List Value} {xs : List Val} (h : RelL w G ρ vs xs) (n : Nat) : RelL w G ρ (vs.drop n) (xs.drop n) :=
  .mk (by simp [h.length]) fun j v x hv hx => h.get (by simpa using hv) (by simpa using hx)

theorem RelL.take {vs : List Value} {xs : List Val} (h : RelL w G ρ vs xs) (n : Nat) : RelL w G ρ (vs.take n) (xs.take n) :=
  .mk (by simp [h.length]) fun j v x hv hx => by
    rw [List.getElem?_take] at hv hx
    split at hv
    · rename_i hj; simp only [hj, if_true] at hx; exact h.get hv hx
    · simp at hv

theorem RdL.toRelL {vs : List Value} {xs : List D} (h : RdL w G vs xs) : RelL w G ρ vs (xs.map .d) :=
  .mk (by simp [h.length]) fun j v x hv hx => by
    simp only [List.getElem?_map, Option.map_eq_some_iff] at hx
    obtain ⟨y, hy, rfl⟩ := hx
    exact .d _ _ (h.get hv hy)
end

/-- A slice that is under construction: who holds it may write behind its end. -/
def OwnRel (w : World) (G : Gh) (L : Loc) (v : Value) (sz : Nat) (l : List D) : Prop :=
  ∃ (b off cap : Nat) (c : Array Value) (E : TypeId) (fz : Nat × Nat) (vs : List Value),
    v = .slice (some ⟨b, off, none⟩) l.length cap ∧ l.length ≤ cap ∧ w.heap[b]? = some (.cells c E fz) ∧ (∀ j, j < c.size → ¬ (fz.1 ≤ j ∧ j < fz.2)) ∧
    off + cap * sz ≤ c.size ∧ 0 < sz ∧ G b = some (L, off + l.length * sz) ∧ (∀ d, d ∈ l → d.cells.length = sz) ∧ CellsAt w G b off vs ∧ RdL w G vs (l.flatMap D.cells)

/-- A value in a place of its own. 'lam': where the local boxes lie. -/
def RelV (w : World) (G : Gh) (ρ : List Nat) (L : Loc) (v : Value) : Val → Prop
  | .own sz (d :: l) => OwnRel w G L v sz (d :: l)
  | x => RelA w G ρ v x

def RelT (w : World) (G : Gh) (ρ : List Nat) (lam : Nat → Option Nat) (L : Loc) (v : Value) : Val → Prop
  | .lref t off => ∃ b, lam t = some b ∧ v = .pointer (some ⟨b, off, none⟩)
  | x => RelV w G ρ L v x

def RelBox (w : World) (G : Gh) (ρ : List Nat) (b : Nat) (L : Loc) (LC : Nat → Loc) (cs : List Val) : Prop :=
  ∃ (c : Array Value) (E : TypeId) (fz : Nat × Nat), w.heap[b]? = some (.cells c E fz) ∧ (∀ j, j < c.size → ¬ (fz.1 ≤ j ∧ j < fz.2)) ∧ G b = some (L, 0) ∧ c.size = cs.length ∧
    ∀ j v x, c[j]? = some v → cs[j]? = some x → RelV w G ρ (LC j) v x

def RelO (w : World) (G : Gh) (ρ : List Nat) (i b : Nat) : Ob → Prop
  | .box cs => RelBox w G ρ b (.obj i) (.ocell i) cs
  | .map es => ∃ mes clock, w.heap[b]? = some (.map mes clock) ∧ G b = some (.obj i, 0) ∧ mes.size = es.length ∧
      ∀ (j : Nat) (e : MapEntry) (p : D × Val), mes[j]? = some e → es[j]? = some p → Rd w G e.key p.1 ∧ RelA w G ρ e.val p.2
  | .dead => True

def RelObs (w : World) (G : Gh) (ρ : List Nat) (s : Store) : Prop :=
  ρ.length = s.length ∧ ∀ i b o, ρ[i]? = some b → s[i]? = some o → RelO w G ρ i b o

def RelG (gl : Nat → List D) (w : World) (G : Gh) : Prop := ∀ g, Rd w G (.pointer (some ⟨g, 0, none⟩)) (.iptr (gl g) 0)

/-- What a run may change. -/
structure Good (w : World) (G : Gh) (w' : World) (G' : Gh) : Prop where
  size : w.heap.size ≤ w'.heap.size
  imm : ∀ b, b < w.heap.size → (G b = none ∨ ∃ n, G b = some (.foreign, n)) → w'.heap[b]? = w.heap[b]? ∧ G' b = G b
  new : ∀ b n, w.heap.size ≤ b → G' b ≠ some (.foreign, n)
  old : ∀ b n, b < w.heap.size → G' b = some (.foreign, n) → G b = some (.foreign, n)
  keep : Keeps w G w' G'
  os : w'.os = w.os
  out : w'.output = w.output

theorem Keeps.refl (w : World) (G : Gh) : Keeps w G w G := fun _ _ _ h => h
theorem Keeps.trans {w w' w'' : World} {G G' G'' : Gh} (h : Keeps w G w' G') (h' : Keeps w' G' w'' G'') : Keeps w G w'' G'' := fun _ _ _ c => h' _ _ _ (h _ _ _ c)

theorem Good.trans {w w' w'' : World} {G G' G'' : Gh} (h : Good w G w' G') (h' : Good w' G' w'' G'') : Good w G w'' G'' where
  size := Nat.le_trans h.size h'.size
  imm b hb hG := by
    obtain ⟨h1, h2⟩ := h.imm b hb hG
    obtain ⟨h3, h4⟩ := h'.imm b (Nat.lt_of_lt_of_le hb h.size) (by rw [h2]; exact hG)
    exact ⟨h3.trans h1, h4.trans h2⟩
  new b n hb hG := by
    rcases Nat.lt_or_ge b w'.heap.size with hlt | hge
    · exact h.new b n hb (h'.old b n hlt hG)
    · exact h'.new b n hge hG
  old b n hb hG := h.old b n hb (h'.old b n (Nat.lt_of_lt_of_le hb h.size) hG)
  keep := h.keep.trans h'.keep
  os := h'.os.trans h.os
  out := h'.out.trans h.out

/-- The frame's own part: its temporaries and its boxes. -/
structure RelS (gl : Nat → List D) (w : World) (G : Gh) (ρ : List Nat) (lam : Nat → Option Nat) (tmps : Array Value) (st : St) : Prop where
  tm : ∀ t, RelT w G ρ lam (.slot t) (tmps.getD t undef) (st.tm t)
  bx : ∀ t cs, st.bx t = some cs → ∃ b, lam t = some b ∧ RelBox w G ρ b (.bbox t) (.bcell t) cs
  nb : ∀ t, st.bx t = none → lam t = none
  ob : RelObs w G ρ st.s
  gb : RelG gl w G
  lt : ∀ b L n, G b = some (L, n) → b < w.heap.size

end Go.Vm
end

section
/- The first lemmas on the relation: copies, constants, moves of ownership. Conditions: none. -/
namespace Go.Vm

theorem upd_self {α : Type} (f : Nat → α) (k : Nat) (v : α) : upd f k v k = v := by simp [upd]
theorem upd_ne {α : Type} (f : Nat → α) {k j : Nat} (v : α) (h : j ≠ k) : upd f k v j = f j := by
  have : Nat.beq j k = false := by rw [Bool.eq_false_iff]; intro h'; exact h (Nat.eq_of_beq_eq_true h')
  simp [upd, this]
theorem upd_eq {α : Type} (f : Nat → α) (k j : Nat) (v : α) : upd f k v j = if j = k then v else f j := by
  by_cases h : j = k
  · subst h; simp [upd_self]
  · simp [upd_ne f v h, h]

/-- The blocks of one owner are as they were, and are another one's now. -/
def SameL (L L' : Loc) (w : World) (G : Gh) (w' : World) (G' : Gh) : Prop := ∀ b n, G b = some (L, n) → w'.heap[b]? = w.heap[b]? ∧ G' b = some (L', n)

section
variable {w w' : World} {G G' : Gh} {ρ ρ' : List Nat} {lam : Nat → Option Nat} {L L' : Loc}

theorem RelV.of_A {v : Value} {x : Val} (h : RelA w G ρ v x) : RelV w G ρ L v x := by
  cases h <;> first | exact .undef _ | exact .d _ _ ‹_› | exact .nil _ _ | exact .ptr _ _ _ ‹_› | exact .map _ _ ‹_› | exact .sl _ _ _ _ _ _ ‹_› | exact .func _ _ _ _ _ ‹_› ‹_› | exact .agg _ _ ‹_› | exact .tuple _ _ ‹_› | exact .yl _ _ ‹_›

theorem RelV.cases {v : Value} {x : Val} (h : RelV w G ρ L v x) : RelA w G ρ v x ∨ ∃ sz d l, x = .own sz (d :: l) ∧ OwnRel w G L v sz (d :: l) := by
  unfold RelV at h
  split at h
  · exact .inr ⟨_, _, _, rfl, h⟩
  · exact .inl h

theorem RelT.of_V {v : Value} {x : Val} (h : RelV w G ρ L v x) : RelT w G ρ lam L v x := by
  rcases h.cases with h | ⟨sz, d, l, rfl, h⟩
  · cases h <;> first | exact .undef _ | exact .d _ _ ‹_› | exact .nil _ _ | exact .ptr _ _ _ ‹_› | exact .map _ _ ‹_› | exact .sl _ _ _ _ _ _ ‹_› | exact .func _ _ _ _ _ ‹_› ‹_› | exact .agg _ _ ‹_› | exact .tuple _ _ ‹_› | exact .yl _ _ ‹_›
  · exact h

theorem RelT.of_A {v : Value} {x : Val} (h : RelA w G ρ v x) : RelT w G ρ lam L v x := .of_V (.of_A h)

theorem RelT.cases {v : Value} {x : Val} (h : RelT w G ρ lam L v x) : RelV w G ρ L v x ∨ ∃ t off b, x = .lref t off ∧ lam t = some b ∧ v = .pointer (some ⟨b, off, none⟩) := by
  unfold RelT at h
  split at h
  · obtain ⟨b, h1, h2⟩ := h; exact .inr ⟨_, _, b, rfl, h1, h2⟩
  · exact .inl h

theorem OwnRel.tr (hk : Keeps w G w' G') (hs : SameL L L' w G w' G') {v : Value} {sz : Nat} {l : List D} (h : OwnRel w G L v sz l) : OwnRel w' G' L' v sz l := by
  obtain ⟨b, off, cap, c, E, fz, vs, h1, h2, h3, h4, h5, h6, h7, h8, h9, h10⟩ := h
  obtain ⟨e1, e2⟩ := hs _ _ h7
  exact ⟨b, off, cap, c, E, fz, vs, h1, h2, e1.trans h3, h4, h5, h6, e2, h8, h9.keep hk, h10.keep hk⟩

theorem RelV.tr (hk : Keeps w G w' G') (hρ : ∀ i b : Nat, ρ[i]? = some b → ρ'[i]? = some b) (hs : SameL L L' w G w' G') {v : Value} {x : Val} (h : RelV w G ρ L v x) : RelV w' G' ρ' L' v x := by
  rcases h.cases with h | ⟨sz, d, l, rfl, h⟩
  · exact .of_A (h.keep hk hρ)
  · exact OwnRel.tr hk hs h

theorem RelT.tr (hk : Keeps w G w' G') (hρ : ∀ i b : Nat, ρ[i]? = some b → ρ'[i]? = some b) {lam' : Nat → Option Nat} (hl : ∀ t b, lam t = some b → lam' t = some b) (hs : SameL L L' w G w' G') {v : Value} {x : Val} (h : RelT w G ρ lam L v x) : RelT w' G' ρ' lam' L' v x := by
  rcases h.cases with h | ⟨t, off, b, rfl, h1, h2⟩
  · exact .of_V (h.tr hk hρ hs)
  · exact ⟨b, hl _ _ h1, h2⟩

theorem RelBox.tr (hk : Keeps w G w' G') (hρ : ∀ i b : Nat, ρ[i]? = some b → ρ'[i]? = some b) {LC LC' : Nat → Loc} (hs : SameL L L' w G w' G') (hc : ∀ j, SameL (LC j) (LC' j) w G w' G') {b : Nat} {cs : List Val}
    (h : RelBox w G ρ b L LC cs) : RelBox w' G' ρ' b L' LC' cs := by
  obtain ⟨c, E, fz, h1, h2, h3, h4, h5⟩ := h
  obtain ⟨e1, e2⟩ := hs _ _ h3
  exact ⟨c, E, fz, e1.trans h1, h2, e2, h4, fun j v x hv hx => (h5 j v x hv hx).tr hk hρ (hc j)⟩

theorem RelO.tr (hk : Keeps w G w' G') (hρ : ∀ i b : Nat, ρ[i]? = some b → ρ'[i]? = some b) {i : Nat} (hs : SameL (.obj i) (.obj i) w G w' G') (hc : ∀ j, SameL (.ocell i j) (.ocell i j) w G w' G') {b : Nat} {o : Ob}
    (h : RelO w G ρ i b o) : RelO w' G' ρ' i b o := by
  cases o with
  | box cs => exact RelBox.tr hk hρ hs hc h
  | map es =>
    obtain ⟨mes, clock, h1, h2, h3, h4⟩ := h
    obtain ⟨e1, e2⟩ := hs _ _ h2
    exact ⟨mes, clock, e1.trans h1, e2, h3, fun j e p he hp => ⟨(h4 j e p he hp).1.keep hk, (h4 j e p he hp).2.keep hk hρ⟩⟩
  | dead => trivial

theorem RelObs.tr (hk : Keeps w G w' G') {s : Store} (hs : ∀ i, SameL (.obj i) (.obj i) w G w' G') (hc : ∀ i j, SameL (.ocell i j) (.ocell i j) w G w' G') (h : RelObs w G ρ s) : RelObs w' G' ρ s :=
  ⟨h.1, fun i b o hb ho => (h.2 i b o hb ho).tr hk (fun _ _ h => h) (hs i) (hc i)⟩

theorem RelG.tr {gl : Nat → List D} (hk : Keeps w G w' G') (h : RelG gl w G) : RelG gl w' G' := fun g => (h g).keep hk

/-! ### Copies -/

theorem OwnRel.rd {v : Value} {sz : Nat} {l : List D} (h : OwnRel w G L v sz l) : Rd w G v (.list sz l) := by
  obtain ⟨b, off, cap, c, E, fz, vs, h1, h2, h3, h4, h5, h6, h7, h8, h9, h10⟩ := h
  subst h1
  exact .list b off _ cap sz l vs rfl h2 h8 h9 h10

theorem RelV.snap {v : Value} {x : Val} (h : RelV w G ρ L v x) : RelA w G ρ v (snap x) := by
  rcases h.cases with h | ⟨sz, d, l, rfl, h⟩
  · cases h <;> first | exact .d _ _ (.list0 _ _ _) | exact .undef _ | exact .d _ _ ‹_› | exact .ptr _ _ _ ‹_› | exact .map _ _ ‹_› | exact .sl _ _ _ _ _ _ ‹_› | exact .func _ _ _ _ _ ‹_› ‹_› | exact .agg _ _ ‹_› | exact .tuple _ _ ‹_› | exact .yl _ _ ‹_›
  · exact .d _ _ h.rd

theorem RelT.snap {v : Value} {x : Val} (h : RelT w G ρ lam L v x) : RelT w G ρ lam L' v (snap x) := by
  rcases h.cases with h | ⟨t, off, b, rfl, h1, h2⟩
  · exact .of_A h.snap
  · exact ⟨b, h1, h2⟩

theorem frzC_rd {v : Value} {x : Val} {d : D} (h : RelV w G ρ L v x) (hf : frzC x = some d) : Rd w G v d := by
  have := h.snap
  cases x <;> simp only [frzC, Option.some.injEq, reduceCtorEq] at hf
  · subst hf; cases this; assumption
  · subst hf; cases this; assumption

theorem frzL_rd {LC : Nat → Loc} : ∀ {vs : List Value} {xs : List Val} {ds : List D} {k : Nat}, vs.length = xs.length → (∀ j v x, vs[j]? = some v → xs[j]? = some x → RelV w G ρ (LC (k + j)) v x) → frzL xs = some ds → RdL w G vs ds
  | [], [], ds, _, _, _, hf => by simp only [frzL, Option.some.injEq] at hf; subst hf; exact .nil
  | [], _ :: _, _, _, h, _, _ => by simp at h
  | _ :: _, [], _, _, h, _, _ => by simp at h
  | v :: vs, x :: xs, ds, k, h, hr, hf => by
    simp only [frzL] at hf
    cases hx : frzC x with
    | none => simp [hx] at hf
    | some d =>
      cases hy : frzL xs with
      | none => simp [hx, hy] at hf
      | some l =>
        simp only [hx, hy, Option.some.injEq] at hf
        subst hf
        exact .cons _ _ _ _ (frzC_rd (hr 0 v x rfl rfl) hx) (frzL_rd (k := k + 1) (by simpa using h) (fun j v x hv hx => by
          have := hr (j + 1) v x (by simpa using hv) (by simpa using hx)
          rwa [Nat.add_assoc, Nat.add_comm 1 j]) hy)

/-- Cells, each in a place of its own, read as one value. -/
theorem frz_agg {LC : Nat → Loc} {vs : List Value} {xs : List Val} (hl : vs.length = xs.length) (hr : ∀ j v x, vs[j]? = some v → xs[j]? = some x → RelV w G ρ (LC j) v x) : RelA w G ρ (.agg ⟨vs⟩) (frz (.agg xs)) := by
  simp only [frz]
  cases hf : frzL xs with
  | some ds => exact .d _ _ (.agg _ _ (frzL_rd (k := 0) hl (fun j v x hv hx => by rw [Nat.zero_add]; exact hr j v x hv hx) hf))
  | none => exact .agg _ _ (.mk (by simpa using hl) fun j v x hv hx => by
      simp only [List.getElem?_map, Option.map_eq_some_iff] at hx
      obtain ⟨y, hy, rfl⟩ := hx
      exact (hr j v y hv hy).snap)

theorem RelA.frz {v : Value} {x : Val} (h : RelA w G ρ v x) : RelA w G ρ v (frz x) := by
  cases h with
  | agg vs cs h => exact frz_agg (LC := fun _ => .res) h.length fun j v x hv hx => .of_A (h.get hv hx)
  | nil a sz => exact .d _ _ (.list0 _ _ _)
  | undef v => exact .undef v
  | d v x h => exact .d v x h
  | ptr _ _ _ h => exact .ptr _ _ _ h
  | map _ _ h => exact .map _ _ h
  | sl _ _ _ _ _ _ h => exact .sl _ _ _ _ _ _ h
  | func _ _ _ _ _ h1 h2 => exact .func _ _ _ _ _ h1 h2
  | tuple _ _ h => exact .tuple _ _ h
  | yl _ _ h => exact .yl _ _ h

theorem RelV.frz {v : Value} {x : Val} (h : RelV w G ρ L v x) : RelA w G ρ v (frz x) := by
  rcases h.cases with h | ⟨sz, d, l, rfl, h⟩
  · exact h.frz
  · exact .d _ _ h.rd

theorem RelT.frz {v : Value} {x : Val} (h : RelT w G ρ lam L v x) : RelT w G ρ lam L' v (frz x) := by
  rcases h.cases with h | ⟨t, off, b, rfl, h1, h2⟩
  · exact .of_A h.frz
  · exact ⟨b, h1, h2⟩

theorem RelT.toD {v : Value} {x : Val} {d : D} (h : RelT w G ρ lam L v x) (hd : toD x = some d) : Rd w G v d := by
  have := h.frz (L' := L)
  unfold Vm.toD at hd
  split at hd
  · rename_i y hy
    simp only [Option.some.injEq] at hd
    subst hd
    rw [hy] at this
    cases this; assumption
  · simp at hd

/-- A value in no place of its own. -/
theorem RelT.of_noL {v : Value} {x : Val} {n : Nat} (h : RelT w G ρ lam L v x) (hn : noL n x = true) : RelV w G ρ L v x := by
  rcases h.cases with h | ⟨t, off, b, rfl, h1, h2⟩
  · exact h
  · cases n <;> simp [noL] at hn

/-! ### Constants -/

theorem cellRel_A {v : Value} {x : Val} (h : cellRel v x = true) : RelA w G ρ v x := by
  unfold cellRel at h
  split at h <;> first
    | (simp at h; subst h; exact .d _ _ (.bool _))
    | (simp at h; obtain ⟨rfl, rfl⟩ := h; exact .d _ _ (.int _ _))
    | (simp at h; exact .d _ _ (.str _ _ h))
    | exact .d _ _ .nilp
    | exact .d _ _ .nilm
    | exact .d _ _ .nilf
    | exact .d _ _ .nili
    | exact .nil _ _
    | (simp at h; obtain ⟨⟨rfl, rfl⟩, rfl⟩ := h; exact .d _ _ (.fn _))
    | simp at h

theorem cellsRel_L : ∀ {vs : List Value} {xs : List Val}, vs.length = xs.length → (vs.zip xs).all (fun p => cellRel p.1 p.2) = true → RelL w G ρ vs xs
  | [], [], _, _ => .nil
  | [], _ :: _, h, _ => by simp at h
  | _ :: _, [], h, _ => by simp at h
  | v :: vs, x :: xs, h, hr => by
    simp only [List.zip_cons_cons, List.all_cons, Bool.and_eq_true] at hr
    exact .cons _ _ _ _ (cellRel_A hr.1) (cellsRel_L (by simpa using h) hr.2)

theorem constRel_A {v : Value} {x : Val} (h : constRel v x = true) : RelA w G ρ v x := by
  unfold constRel at h
  split at h
  · rename_i vs cs
    simp only [Bool.and_eq_true, decide_eq_true_eq] at h
    obtain ⟨vs⟩ := vs
    exact .agg _ _ (cellsRel_L (by simpa using h.1) (by simpa using h.2))
  · rename_i vs
    obtain ⟨vs⟩ := vs
    cases vs with
    | nil => exact .tuple [] [] .nil
    | cons a b => simp at h
  · exact cellRel_A h

section
variable {P : Program} {gl : Nat → List D} {a : Act} {st : St}

theorem ev_rel {t : Nat} {x : Operand} {y : O} (hx : opd P t x = some y) (h : RelS gl w G ρ lam a.tmps st) : ∃ L, RelT w G ρ lam L (a.eval x) (ev gl st y) ∧ ∀ s, y = .t s → L = .slot s := by
  cases x with
  | tmp n => simp only [opd, Option.some.injEq] at hx; subst hx; exact ⟨.slot n, h.tm n, fun s hs => by cases hs; rfl⟩
  | const v =>
    simp only [opd, Option.map_eq_some_iff] at hx
    obtain ⟨z, hz, rfl⟩ := hx
    refine ⟨.res, .of_A ?_, fun s hs => by cases hs⟩
    unfold constV at hz
    split at hz
    · split at hz
      · simp only [Option.some.injEq] at hz; subst hz; exact constRel_A ‹_›
      · simp at hz
    · simp at hz
  | global g => simp only [opd, Option.some.injEq] at hx; subst hx; exact ⟨.res, .of_A (.d _ _ (h.gb g)), fun s hs => by cases hs⟩
  | func f => simp only [opd, Option.some.injEq] at hx; subst hx; exact ⟨.res, .of_A (.d _ _ (.fn f)), fun s hs => by cases hs⟩

theorem RelS.set {tmps : Array Value} {d : Nat} {v : Value} {x : Val} (h : RelS gl w G ρ lam tmps st) (hd : d < tmps.size) (hv : RelT w G ρ lam (.slot d) v x) : RelS gl w G ρ lam (tmps.setIfInBounds d v) (st.set d x) where
  tm t := by
    simp only [St.set, upd_eq]
    by_cases ht : t = d
    · subst ht; simp [hd]; exact hv
    · simp only [ht, if_false]
      have : (tmps.setIfInBounds d v).getD t undef = tmps.getD t undef := by
        simp only [Array.getD_eq_getD_getElem?, Array.getElem?_setIfInBounds_ne (Ne.symm ht)]
      rw [this]; exact h.tm t
  bx := h.bx
  nb := h.nb
  ob := h.ob
  gb := h.gb
  lt := h.lt

end
end
end Go.Vm
end

section
/- What a call of the machine stands for; the first operations. Conditions: none. -/
namespace Go.Vm

/-- A function of the program's own. -/
def Callable (P : Program) (f : Nat) : Prop := ∃ fn, P.funcs[f]? = some fn ∧ fn.body.isNone = false ∧ (fn.name == "runtime.NumGoroutine") = false

/-- In every world that reads as told the call returns what reads as told. -/
def VEv (P : Program) (gl : Nat → List D) (f : Nat) (args : List Val) (s : Store) (r : Val) (s' : Store) : Prop :=
  Callable P f ∧ ∀ (w : World) (G : Gh) (ρ : List Nat) (vs : List Value), RelObs w G ρ s → RelG gl w G → (∀ b L n, G b = some (L, n) → b < w.heap.size) → RelL w G ρ vs args →
    Calls P f ⟨vs⟩ w fun e w' => ∃ v G' ρ', e = .returned v ∧ RelV w' G' ρ' .res v r ∧ RelObs w' G' ρ' s' ∧ (∀ b L n, G' b = some (L, n) → b < w'.heap.size) ∧ Good w G w' G' ∧
      (∀ i b : Nat, ρ[i]? = some b → ρ'[i]? = some b) ∧ s.length ≤ s'.length

/-- The code is the function's. -/
def Compiled (P : Program) (f : Nat) (vf : VF) : Prop := ∃ fn an, P.funcs[f]? = some fn ∧ (fn.name == "runtime.NumGoroutine") = false ∧ compF P an fn = some vf

def AP (P : Program) (gl : Nat → List D) : Alg Prop where
  fail := False
  guard b p := b = true ∧ p
  call f args s K := ∃ r s', VEv P gl f args s r s' ∧ K r s'
  fix F st := ∃ (I : Nat → St → Prop) (n : Nat), I n st ∧ ∀ n st, I n st → F st fun st' => ∃ m, m < n ∧ I m st'
  both := And
  iter g k := ∃ vf, Compiled P g vf ∧ k vf

theorem Good.refl {w : World} {G : Gh} (h : ∀ b L n, G b = some (L, n) → b < w.heap.size) : Good w G w G where
  size := Nat.le_refl _
  imm _ _ _ := ⟨rfl, rfl⟩
  new _ _ hb hG := absurd (h _ _ _ hG) (Nat.not_lt.2 hb)
  old _ _ _ h := h
  keep := Keeps.refl _ _
  os := rfl
  out := rfl

theorem pre_app {ρ l : List Nat} : ∀ i b : Nat, ρ[i]? = some b → (ρ ++ l)[i]? = some b := by
  intro i b h
  have hl : i < ρ.length := by
    rcases Nat.lt_or_ge i ρ.length with h' | h'
    · exact h'
    · rw [List.getElem?_eq_none h'] at h; simp at h
  rw [List.getElem?_append_left hl]; exact h

def mark (D : Nat) : Deferred := { target := .collected D, args := #[] }

/-- The marks of ranges over functions: blocks from 'n0' on that nobody writes. -/
def Marks (n0 : Nat) (w : World) (G : Gh) (l : List Deferred) : Prop :=
  ∃ Ds : List Nat, l = Ds.map mark ∧ Ds.Nodup ∧ ∀ D, D ∈ Ds → n0 ≤ D ∧ w.heap[D]? = some (.deferred (some [])) ∧ G D = none

theorem Marks.good {n0 : Nat} {w w' : World} {G G' : Gh} {l : List Deferred} (h : Marks n0 w G l) (hg : Good w G w' G') : Marks n0 w' G' l := by
  obtain ⟨Ds, h1, h2, h3⟩ := h
  refine ⟨Ds, h1, h2, fun D hD => ?_⟩
  obtain ⟨e1, e2, e3⟩ := h3 D hD
  have hlt : D < w.heap.size := (Array.getElem?_eq_some_iff.1 e2).1
  obtain ⟨i1, i2⟩ := hg.imm D hlt (.inl e3)
  exact ⟨e1, i1.trans e2, i2.trans e3⟩

theorem Marks.nil {n0 : Nat} {w : World} {G : Gh} : Marks n0 w G [] := ⟨[], rfl, List.nodup_nil, fun D hD => by simp at hD⟩

def After (n0 : Nat) (gl : Nat → List D) (nt : Nat) (w : World) (G : Gh) (ρ : List Nat) (K : St → Prop) (a' : Act) (w' : World) : Prop :=
  nt ≤ a'.tmps.size ∧ ∃ G' ρ' lam' st', Marks n0 w' G' a'.defers ∧ RelS gl w' G' ρ' lam' a'.tmps st' ∧ Good w G w' G' ∧ (∀ i b : Nat, ρ[i]? = some b → ρ'[i]? = some b) ∧ K st'

theorem after_mk {gl : Nat → List D} {n0 nt : Nat} {w w' : World} {G : Gh} {ρ : List Nat} {a a' : Act} {K : St → Prop} (hm : Marks n0 w G a.defers) (h1 : a'.defers = a.defers) (h2 : nt ≤ a'.tmps.size) (G' : Gh) (ρ' : List Nat)
    (lam' : Nat → Option Nat) (st' : St) (h3 : RelS gl w' G' ρ' lam' a'.tmps st') (h4 : Good w G w' G') (h5 : ∀ i b : Nat, ρ[i]? = some b → ρ'[i]? = some b) (h6 : K st') : After n0 gl nt w G ρ K a' w' :=
  ⟨h2, G', ρ', lam', st', by rw [h1]; exact hm.good h4, h3, h4, h5, h6⟩

section
variable {P : Program} {gl : Nat → List D} {n0 nt : Nat} {a : Act} {w w' : World} {G G' : Gh} {ρ ρ' : List Nat} {lam lam' : Nat → Option Nat} {st st' : St} {K : St → Prop} {o : Oper} {Q : Exit → Act → World → Prop}

theorem wp_value {next : Act → World → Prop} {v : Value} (hr : (execOp a.eval o).run P w = .ok (.value v) w') (h : next (a.put o.dst v) w') : o.wp P a w next Q := by
  unfold Oper.wp; rw [hr]; exact h

theorem wp_skip' {next : Act → World → Prop} (hr : (execOp a.eval o).run P w = .ok .skip w') (h : next (a.put o.dst undef) w') : o.wp P a w next Q := by
  unfold Oper.wp; rw [hr]; exact h

theorem put_size (a : Act) (d : Option Nat) (v : Value) : (a.put d v).tmps.size = a.tmps.size := by
  cases d <;> simp [Act.put]

theorem put_defers (a : Act) (d : Option Nat) (v : Value) : (a.put d v).defers = a.defers := by
  cases d <;> simp [Act.put]

/-- A value is laid into a temporary, over the same or another world. -/
theorem after_set {w0 : World} {G0 : Gh} {ρ0 : List Nat} {d : Nat} {v : Value} {x : Val} (h : RelS gl w G ρ lam a.tmps st) (hd0 : Marks n0 w0 G0 a.defers) (hn : nt ≤ a.tmps.size) (hdt : d < nt) (hg : Good w0 G0 w G) (hρ0 : ∀ i b : Nat, ρ0[i]? = some b → ρ[i]? = some b) (hod : o.dst = some d)
    (hv : RelT w G ρ lam (.slot d) v x) (hK : K (st.set d x)) : After n0 gl nt w0 G0 ρ0 K (a.put o.dst v) w :=
  (after_mk hd0 (put_defers _ _ _) (by rw [put_size]; exact hn) G ρ lam _ (by rw [hod]; exact h.set (Nat.lt_of_lt_of_le hdt hn) hv) hg hρ0 hK)

/-! ### Ownership is handed on -/

def relab (φ : Loc → Loc) (G : Gh) : Gh := fun b => (G b).map fun p => (φ p.1, p.2)

theorem relab_some {φ : Loc → Loc} {b : Nat} {L : Loc} {n : Nat} (h : G b = some (L, n)) : relab φ G b = some (φ L, n) := by simp [relab, h]
theorem relab_inv {φ : Loc → Loc} {b : Nat} {L : Loc} {n : Nat} (h : relab φ G b = some (L, n)) : ∃ L', G b = some (L', n) ∧ φ L' = L := by
  unfold relab at h
  cases hg : G b with
  | none => simp [hg] at h
  | some p => obtain ⟨L', n'⟩ := p; simp only [hg, Option.map_some, Option.some.injEq, Prod.mk.injEq] at h; obtain ⟨h1, rfl⟩ := h; exact ⟨L', rfl, h1⟩
theorem relab_fz {φ : Loc → Loc} {b off : Nat} : Fz (relab φ G) b off ↔ Fz G b off :=
  ⟨fun h L n hg => h _ n (relab_some hg), fun h L n hg => by obtain ⟨L', hg', _⟩ := relab_inv hg; exact h _ _ hg'⟩
theorem relab_keeps (φ : Loc → Loc) : Keeps w G w (relab φ G) := fun _ _ _ h => ⟨h.1, relab_fz.2 h.2.1, h.2.2⟩
theorem relab_keeps' (φ : Loc → Loc) : Keeps w (relab φ G) w G := fun _ _ _ h => ⟨h.1, relab_fz.1 h.2.1, h.2.2⟩
theorem relab_same (φ : Loc → Loc) (L : Loc) : SameL L (φ L) w G w (relab φ G) := fun _ _ h => ⟨rfl, relab_some h⟩
theorem relab_same' {φ : Loc → Loc} {L : Loc} (h : φ L = L) : SameL L L w G w (relab φ G) := by have := relab_same (w := w) (G := G) φ L; rwa [h] at this
theorem relab_good {φ : Loc → Loc} (h : ∀ b L n, G b = some (L, n) → b < w.heap.size) (h1 : φ .foreign = .foreign) (h2 : ∀ L, φ L = .foreign → L = .foreign) : Good w G w (relab φ G) where
  size := Nat.le_refl _
  imm b _ hG := ⟨rfl, by rcases hG with hG | ⟨n, hG⟩ <;> simp [relab, hG, h1]⟩
  new b n hb hG := by obtain ⟨L', hg, _⟩ := relab_inv hG; exact absurd (h _ _ _ hg) (Nat.not_lt.2 hb)
  old b n hb hG := by obtain ⟨L', hg, he⟩ := relab_inv hG; rw [h2 _ he] at hg; exact hg
  keep := relab_keeps φ
  os := rfl
  out := rfl
theorem relab_lt {φ : Loc → Loc} (h : ∀ b L n, G b = some (L, n) → b < w.heap.size) : ∀ b L n, relab φ G b = some (L, n) → b < w.heap.size :=
  fun _ _ _ hg => by obtain ⟨L', hg', _⟩ := relab_inv hg; exact h _ _ _ hg'

def swapL (s d : Loc) (L : Loc) : Loc := if L = s then d else L
theorem swapL_ne {s d L : Loc} (h : L ≠ s) : swapL s d L = L := by simp [swapL, h]
theorem swapL_self {s d : Loc} : swapL s d s = d := by simp [swapL]

theorem swap_good {s d : Loc} (h : ∀ b L n, G b = some (L, n) → b < w.heap.size) (hs : s ≠ .foreign) (hd : d ≠ .foreign) : Good w G w (relab (swapL s d) G) :=
  relab_good h (swapL_ne (Ne.symm hs)) fun L hL => by
    by_cases h : L = s
    · subst h; rw [swapL_self] at hL; exact absurd hL hd
    · rwa [swapL_ne h] at hL

/-- A slot's value is moved to another slot. -/
theorem RelS.take {d s : Nat} (h : RelS gl w G ρ lam a.tmps st) (hd : d < a.tmps.size) :
    RelS gl w (relab (swapL (.slot s) (.slot d)) G) ρ lam (a.tmps.setIfInBounds d (a.tmps.getD s undef)) ((st.set s .undef).set d (st.tm s)) := by
  have hk : Keeps w G w (relab (swapL (.slot s) (.slot d)) G) := relab_keeps _
  have hid : ∀ L, L ≠ .slot s → SameL L L w G w (relab (swapL (.slot s) (.slot d)) G) := fun L hL => relab_same' (swapL_ne hL)
  refine RelS.set (st := st.set s .undef) ⟨?_, ?_, h.nb, ?_, h.gb.tr hk, relab_lt h.lt⟩ hd ?_
  · intro t
    simp only [St.set, upd_eq]
    by_cases ht : t = s
    · simp only [ht, if_true]; exact .of_A (.undef _)
    · simp only [ht, if_false]
      exact (h.tm t).tr hk (fun _ _ h => h) (fun _ _ h => h) (hid _ (by simp [ht]))
  · intro t cs hb
    obtain ⟨b, h1, h2⟩ := h.bx t cs hb
    exact ⟨b, h1, RelBox.tr hk (fun _ _ h => h) (hid _ (by simp)) (fun j => hid _ (by simp)) h2⟩
  · exact h.ob.tr hk (fun i => hid _ (by simp)) (fun i j => hid _ (by simp))
  · have := relab_same (w := w) (G := G) (swapL (.slot s) (.slot d)) (.slot s)
    rw [swapL_self] at this
    exact (h.tm s).tr hk (fun _ _ h => h) (fun _ _ h => h) this

theorem after_take {w0 : World} {G0 : Gh} {ρ0 : List Nat} {d s : Nat} (h : RelS gl w G ρ lam a.tmps st) (hd0 : Marks n0 w0 G0 a.defers) (hn : nt ≤ a.tmps.size) (hdt : d < nt) (hg : Good w0 G0 w G) (hρ0 : ∀ i b : Nat, ρ0[i]? = some b → ρ[i]? = some b) (hod : o.dst = some d)
    (hK : K ((st.set s .undef).set d (st.tm s))) : After n0 gl nt w0 G0 ρ0 K (a.put o.dst (a.tmps.getD s undef)) w :=
  (after_mk hd0 (put_defers _ _ _) (by rw [put_size]; exact hn) _ ρ lam _ (by rw [hod]; exact h.take (Nat.lt_of_lt_of_le hdt hn)) (hg.trans (swap_good h.lt (by simp) (by simp))) hρ0 hK)

/-! ### Operations that leave the world alone -/

theorem ev_snap {t : Nat} {x : Operand} {y : O} {L : Loc} (hx : opd P t x = some y) (h : RelS gl w G ρ lam a.tmps st) : RelT w G ρ lam L (a.eval x) (snap (ev gl st y)) := by
  obtain ⟨L0, h1, _⟩ := ev_rel hx h
  exact h1.snap

theorem ev_any {t : Nat} {x : Operand} {y : O} (hx : opd P t x = some y) (h : RelS gl w G ρ lam a.tmps st) : ∃ L, RelT w G ρ lam L (a.eval x) (ev gl st y) := by
  obtain ⟨L0, h1, _⟩ := ev_rel hx h
  exact ⟨L0, h1⟩

/-- An operand that is no temporary has a value that nobody holds. -/
theorem ev_const {t : Nat} {x : Operand} {y : O} (hx : opd P t x = some y) (h : RelS gl w G ρ lam a.tmps st) : (∃ s, x = .tmp s ∧ y = .t s) ∨ ((∀ s, y ≠ .t s) ∧ RelA w G ρ (a.eval x) (ev gl st y)) := by
  cases x with
  | tmp n => simp only [opd, Option.some.injEq] at hx; exact .inl ⟨n, rfl, hx.symm⟩
  | const v =>
    simp only [opd, Option.map_eq_some_iff] at hx
    obtain ⟨z, hz, rfl⟩ := hx
    refine .inr ⟨(fun s hs => by cases hs), ?_⟩
    unfold constV at hz
    split at hz
    · split at hz
      · simp only [Option.some.injEq] at hz; subst hz; exact constRel_A ‹_›
      · simp at hz
    · simp at hz
  | global g => simp only [opd, Option.some.injEq] at hx; subst hx; exact .inr ⟨(fun s hs => by cases hs), .d _ _ (h.gb g)⟩
  | func f => simp only [opd, Option.some.injEq] at hx; subst hx; exact .inr ⟨(fun s hs => by cases hs), .d _ _ (.fn f)⟩

/-- What all lemmas on one operation are told. -/
structure Pre (n0 : Nat) (gl : Nat → List D) (nt : Nat) (w : World) (G : Gh) (ρ : List Nat) (lam : Nat → Option Nat) (a : Act) (st : St) : Prop where
  rel : RelS gl w G ρ lam a.tmps st
  df : Marks n0 w G a.defers
  sz : nt ≤ a.tmps.size

theorem Pre.value {d : Nat} {v : Value} {x : Val} (p : Pre n0 gl nt w G ρ lam a st) (hod : o.dst = some d) (hdt : d < nt) (hr : (execOp a.eval o).run P w = .ok (.value v) w)
    (hv : RelT w G ρ lam (.slot d) v x) (hK : K (st.set d x)) : o.wp P a w (After n0 gl nt w G ρ K) Q :=
  wp_value hr (after_set p.rel p.df p.sz hdt (Good.refl p.rel.lt) (fun _ _ h => h) hod hv hK)

theorem sim_mv {d : Nat} {x : Operand} {y : O} {t : Nat} (p : Pre n0 gl nt w G ρ lam a st) (hod : o.dst = some d) (hdt : d < nt) (hop : o.op = .move x) (hx : opd P t x = some y)
    (hs : step (AP P gl) gl (.mv d y) st K) : o.wp P a w (After n0 gl nt w G ρ K) Q :=
  p.value hod hdt (v := a.eval x) (by simp only [execOp, hop]; rfl) (ev_snap hx p.rel) hs

theorem sim_tk {d s : Nat} (p : Pre n0 gl nt w G ρ lam a st) (hod : o.dst = some d) (hdt : d < nt) (hop : o.op = .move (.tmp s))
    (hs : step (AP P gl) gl (.tk d s) st K) : o.wp P a w (After n0 gl nt w G ρ K) Q :=
  wp_value (v := a.tmps.getD s undef) (by simp only [execOp, hop]; rfl) (after_take p.rel p.df p.sz hdt (Good.refl p.rel.lt) (fun _ _ h => h) hod hs)

theorem kill_cases (st : St) (y : O) : (kill st y = st ∧ (∀ s, y = .t s → ∀ sz l, st.tm s ≠ .own sz l)) ∨ ∃ s, y = .t s ∧ kill st y = st.set s .undef ∧ ∃ sz l, st.tm s = .own sz l := by
  cases y with
  | t s =>
    cases hx : st.tm s with
    | own sz l => exact .inr ⟨s, rfl, by simp [kill, hx], sz, l, hx⟩
    | _ => exact .inl ⟨by simp [kill, hx], fun s' hs' sz l => by cases hs'; simp [hx]⟩
  | c v => exact .inl ⟨rfl, fun s hs => by cases hs⟩
  | g n => exact .inl ⟨rfl, fun s hs => by cases hs⟩

theorem RelT.not_own {v : Value} {x : Val} {L L' : Loc} (h : RelT w G ρ lam L v x) (hx : ∀ sz l, x ≠ .own sz l) : RelT w G ρ lam L' v x := by
  rcases h.cases with h | ⟨t, off, b, rfl, h1, h2⟩
  · rcases h.cases with h | ⟨sz, d, l, rfl, h⟩
    · exact .of_A h
    · exact absurd rfl (hx sz (d :: l))
  · exact ⟨b, h1, h2⟩

theorem sim_asg {d : Nat} {x : Operand} {y : O} {t : Nat} (p : Pre n0 gl nt w G ρ lam a st) (hod : o.dst = some d) (hdt : d < nt) (hop : o.op = .assign x) (hx : opd P t x = some y)
    (hs : step (AP P gl) gl (.asg d y) st K) : o.wp P a w (After n0 gl nt w G ρ K) Q := by
  have hr : (execOp a.eval o).run P w = .ok (.value (a.eval x)) w := by simp only [execOp, hop]; rfl
  simp only [step] at hs
  rcases ev_const hx p.rel with ⟨s, rfl, rfl⟩ | ⟨hn, hA⟩
  · rcases kill_cases st (.t s) with ⟨hk, hno⟩ | ⟨s', hs', hk, _⟩
    · rw [hk] at hs
      exact p.value hod hdt hr ((p.rel.tm s).not_own (hno s rfl)) hs
    · cases hs'
      rw [hk] at hs
      exact wp_value hr (after_take p.rel p.df p.sz hdt (Good.refl p.rel.lt) (fun _ _ h => h) hod hs)
  · rcases kill_cases st y with ⟨hk, _⟩ | ⟨s', hs', hk, _⟩
    · rw [hk] at hs
      exact p.value hod hdt hr (.of_A hA) hs
    · exact absurd hs' (hn s')

theorem RelT.dat {v : Value} {x : D} {L : Loc} (h : RelT w G ρ lam L v (.d x)) : Rd w G v x := by
  have h' : RelA w G ρ v (.d x) := h
  cases h'; assumption

theorem RelT.bool {v : Value} {b : Bool} {L : Loc} (h : RelT w G ρ lam L v (.d (.bool b))) : v = .bool b := by
  have := h.dat; cases this; rfl
theorem RelT.int {v : Value} {k : IntKind} {n : Int} {L : Loc} (h : RelT w G ρ lam L v (.d (.int k n))) : v = .int k n := by
  have := h.dat; cases this; rfl
theorem RelT.str {v : Value} {l : List UInt8} {L : Loc} (h : RelT w G ρ lam L v (.d (.str l))) : ∃ s : ByteArray, v = .string s ∧ s.data.toList = l := by
  have := h.dat
  cases this with | str s _ h => exact ⟨s, rfl, h⟩

theorem sim_pk {d : Nat} {c x y : Operand} {c' x' y' : O} {t u : Nat} (p : Pre n0 gl nt w G ρ lam a st) (hod : o.dst = some d) (hdt : d < nt) (hop : o.op = .pick c x y) (hc : opd P t c = some c') (hx : opd P u x = some x') (hy : opd P u y = some y')
    (hs : step (AP P gl) gl (.pk d c' x' y') st K) : o.wp P a w (After n0 gl nt w G ρ K) Q := by
  obtain ⟨L, hcr⟩ := ev_any hc p.rel
  simp only [step] at hs
  split at hs
  · rename_i b hb
    rw [hb] at hcr
    have hcb := hcr.bool
    cases b with
    | true => exact p.value hod hdt (v := a.eval x) (by simp [execOp, hop, hcb, asBool, Bind.bind, Sem.bind, Pure.pure]) (ev_snap hx p.rel) (by simpa using hs)
    | false => exact p.value hod hdt (v := a.eval y) (by simp [execOp, hop, hcb, asBool, Bind.bind, Sem.bind, Pure.pure]) (ev_snap hy p.rel) (by simpa using hs)
  · exact hs.elim

end
end Go.Vm
end
