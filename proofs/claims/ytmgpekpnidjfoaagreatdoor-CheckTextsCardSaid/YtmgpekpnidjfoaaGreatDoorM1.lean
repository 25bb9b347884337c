/- Part of texts_said. -/
import Derived.Deep.MidRow
import Derived.RangeFuncSeq
import Derived.Lib.SmallJoins
import Derived.Lib.UnsafeStr
import Derived.Lib.Bytealg
set_option linter.defProp false
set_option maxRecDepth 100000
set_option maxHeartbeats 8000000
set_option linter.unusedSimpArgs false
set_option linter.unusedVariables false
namespace Go.aJ
variable {p:Prop}
inductive D where
 |bool (b:Bool)
 |int (k:IntKind) (n:Int)
 |str (s:List UInt8)
 |list (sz:Nat) (l:List D)
 |agg (cs:List D)
 |dO|hj|k5|ig
 |fn (f:Nat)
 |eY (cs:List D) (off:Nat)
 |iface (t:Nat) (x:D)
 |k6 (ks:List D) (vs:List D)
 |hL
 deriving Inhabited,Repr
inductive fb where
 |d (x:D)
 |nil (sz:Nat)
 deriving Inhabited,Repr
inductive ag where
 |undef
 |d (x:D)
 |own (sz:Nat) (l:List D)
 |dT (t off:Nat)
 |ptr (i off:Nat)
 |map (i:Nat)
 |aS (i off len cap sz:Nat)
 |func (f:Nat) (first gD:List ag)
 |agg (cs:List ag)
 |tuple (vs:List ag)
 |fT (i:Nat)
 |gE (sz:Nat)
 |raw (sz n:Nat) (cs:List fb)
 deriving Inhabited,Repr
inductive b3 where
 |box (cs:List ag)
 |map (es:List (D×ag))
 |dead
 |hM (t e:Nat) (bs:List UInt8)
 |hZ (m:Option Nat)
 deriving Inhabited,Repr
abbrev aV:=List b3
inductive O where
 |t (n:Nat)
 |c (v:ag)
 |g (n:Nat)
 deriving Inhabited,Repr
inductive I where
 |cS (d:Nat) (x:O)
 |hb (d s:Nat)
 |eZ (d:Nat) (x:O)
 |ei (d:Nat) (c a b:O)
 |kE (d:Nat) (z:List ag)
 |fO (d:Nat) (x:O) (n:Nat)
 |br (d:Nat) (z:List ag)
 |aq (d:Nat) (x:O) (n:Nat)
 |vJ (d:Nat) (z:List ag) (ps:List (Nat×Nat×O))
 |li (d:Nat) (sz:Nat) (xs:List O)
 |hN (d:Nat) (a:O) (t off n:Nat) (ah:Bool)
 |lt (d:Nat) (a:O) (t off:Nat)
 |ls (a:O) (t off:Nat) (x:O) (n:Nat)
 |aH (d:Nat) (a:O) (n:Nat) (ah:Bool)
 |aC (d:Nat) (a:O)
 |hs (a:O) (x:O) (n:Nat)
 |vK (d:Nat) (x:O)
 |bi (d:Nat) (op:BinOp) (x y:O)
 |eq (d:Nat) (neg ah:Bool) (ks:List Nat) (x y:O)
 |un (d:Nat) (op:UnOp) (x:O)
 |ci (d:Nat) (k:IntKind) (x:O)
 |cs (d:Nat) (x:O)
 |h3 (d:Nat) (x:O)
 |bs (d:Nat) (x:O)
 |gF (d:Nat) (x:O) (off:Nat)
 |fd (d:Nat) (x:O) (off n:Nat) (ah:Bool)
 |lF (d:Nat) (x i:O) (sz:Nat)
 |aa (d:Nat) (x i:O) (len sz:Nat)
 |ma (d:Nat) (x i:O)
 |ss (d:Nat) (x:O) (lo hi:Option O)
 |aS (d sz:Nat) (x:O) (lo hi mx:Option O)
 |em (d:Nat) (x:O)
 |vL (d:Nat) (f:Nat) (first gD:List O)
 |dH (d:Option Nat) (f:O) (args:List O)
 |ap (d:Nat) (s:Nat) (x:O) (sz b2:Nat)
 |mP (d:Nat) (str:Bool) (x:O)
 |ex (d:Nat) (x:O) (i:Nat)
 |mm (d:Nat)
 |aI (d:Nat) (ah:Bool) (ks:List Nat) (m k:O) (z:ag) (ok:Bool)
 |n7 (ah:Bool) (ks:List Nat) (m k x:O)
 |p2 (d:Nat) (lt:Bool) (x y:O)
 |mb (d:Nat) (neg:Bool) (hk:Nat) (x:O)
 |p3 (d:Option Nat) (f:Nat) (args:List O)
 |b7 (d:Nat) (k:Nat) (x y:O)
 |bad (d:Option Nat)
 |lG (d:Option Nat)
 |kF (d s z i:Nat) (x:O) (sz b2:Nat)
 |mQ (d s:Nat) (x:O) (sz b2:Nat)
 |mR (d s:Nat) (x:O) (sz b2:Nat)
 |q4 (d:Nat) (sz:Nat) (xs:List O)
 |mk (d sz:Nat) (z:List ag) (n:O) (b2:Nat)
 |n8 (d:Option Nat) (x:O) (z:List ag)
 |vM (d:Nat) (x i:O) (len sz:Nat) (ah:Bool)
 |ak (d t e:Nat)
 |rg (d:Nat) (x:O)
 |k7 (d:Nat) (x:O)
 |aQ (d:Nat) (a:O) (n:Nat)
 |mS (d:Nat) (own:Bool) (x:O)
 |so (d s sz:Nat) (lo:O)
 |oW (d:Nat) (x:O)
 deriving Inhabited,Repr
structure cb where
 g:Option (Nat×Bool)
 i:I
 deriving Inhabited,Repr
inductive eG where
 |skip
 |ops (l:List cb)
 |any (l:List cb) (dz:List (List Nat))
 |bad
 |seq (a b:eG)
 |cond (c:O) (a b:eG)
 |block (i:Nat) (b:eG)
 |loop (ts bs:List Nat) (b:eG)
 |h4 (x:O) (ps:List Nat) (a b:eG)
 |exit (i:Nat)
 |ret
 deriving Inhabited,Repr
inductive n9 where
 |t (t:Nat)
 |o (t:Nat)
 |b (t n:Nat) (ah:Bool)
 |h (t n:Nat) (ah:Bool)
 deriving Inhabited,Repr
structure aX where
 code:eG
 res:List n9
 deriving Inhabited,Repr
def dk(i:Nat):List Nat->Bool
 |[]=>false
 |j::l=>cond (Nat.beq i j) true (dk i l)
def I.dst:I->Option Nat
 |.cS d _|.hb d _|.eZ d _|.ei d _ _ _|.kE d _|.fO d _ _|.br d _|.aq d _ _|.vJ d _ _|.li d _ _|.hN d _ _ _ _ _|.lt d _ _ _
 |.aH d _ _ _|.aC d _|.vK d _|.bi d _ _ _|.eq d _ _ _ _ _|.un d _ _|.ci d _ _|.cs d _|.h3 d _|.bs d _|.gF d _ _|.fd d _ _ _ _|.lF d _ _ _
 |.aa d _ _ _ _|.ma d _ _|.ss d _ _ _|.aS d _ _ _ _ _|.em d _|.vL d _ _ _|.ap d _ _ _ _|.mP d _ _|.ex d _ _|.mm d|.aI d _ _ _ _ _ _|.p2 d _ _ _|.mb d _ _ _|.b7 d _ _ _|.kF d _ _ _ _ _ _|.mQ d _ _ _ _|.mR d _ _ _ _|.q4 d _ _|.mk d _ _ _ _|.vM d _ _ _ _ _|.ak d _ _|.rg d _|.k7 d _|.aQ d _ _|.mS d _ _|.so d _ _ _|.oW d _=>some d
 |.dH d _ _|.p3 d _ _|.bad d|.lG d|.n8 d _ _=>d
 |.ls .. |.hs .. |.n7 .. =>none
def O.slots:O->List Nat
 |.t n=>[n]
 |_=>[]
def xY:Option O->List Nat
 |some x=>x.slots
 |none=>[]
def oX(l:List O):List Nat:=l.flatMap O.slots
def I.rd:I->List Nat
 |.cS _ x|.eZ _ x|.fO _ x _|.aq _ x _|.hN _ x _ _ _ _|.lt _ x _ _|.aH _ x _ _|.aC _ x|.vK _ x|.un _ _ x|.ci _ _ x|.cs _ x|.h3 _ x|.bs _ x|.gF _ x _|.fd _ x _ _ _|.em _ x|.mP _ _ x|.ex _ x _
 |.mb _ _ _ x=>x.slots
 |.hb _ s=>[s]
 |.ei _ c a b=>c.slots++a.slots++b.slots
 |.kE _ _|.br _ _|.mm _=>[]
 |.vJ _ _ ps=>ps.flatMap λq=>q.2.2.slots
 |.li _ _ xs=>oX xs
 |.ls a _ _ x _|.hs a x _=>a.slots++x.slots
 |.bi _ _ x y|.eq _ _ _ _ x y|.lF _ x y _|.aa _ x y _ _|.ma _ x y|.p2 _ _ x y|.b7 _ _ x y=>x.slots++y.slots
 |.ss _ x lo hi=>x.slots++xY lo++xY hi
 |.aS _ _ x lo hi mx=>x.slots++xY lo++xY hi++xY mx
 |.vL _ _ xs ws=>oX xs++oX ws
 |.dH _ f xs=>f.slots++oX xs
 |.p3 _ _ xs=>oX xs
 |.ap _ s x _ _=>s::x.slots
 |.aI _ _ _ m k _ _=>m.slots++k.slots
 |.n7 _ _ m k x=>m.slots++k.slots++x.slots
 |.bad _|.lG _|.ak _ _ _=>[]
 |.rg _ x|.k7 _ x|.aQ _ x _|.mS _ _ x|.oW _ x=>x.slots
 |.so _ s _ x=>s::x.slots
 |.kF _ s z i x _ _=>s::z::i::x.slots
 |.mQ _ s x _ _|.mR _ s x _ _=>s::x.slots
 |.q4 _ _ xs=>oX xs
 |.mk _ _ _ n _=>n.slots
 |.n8 _ x _=>x.slots
 |.vM _ x i _ _ _=>x.slots++i.slots
def I.hw(i:I):List Nat:=i.dst.toList++match i with
 |.hb _ s|.ap _ s _ _ _|.mQ _ s _ _ _|.mR _ s _ _ _|.kF _ s _ _ _ _ _|.so _ s _ _=>[s]
 |.oW _ x=>x.slots
 |_=>[]
def I.kl:I->List Nat
 |.eZ _ x|.ls _ _ _ x _|.hs _ x _|.mS _ _ x=>x.slots
 |_=>[]
def I.wr(i:I):List Nat:=i.hw++i.kl
def I.oa:I->List Nat
 |.kE d _|.fO d _ _=>[d]
 |.hN _ _ t _ _ _|.lt _ _ t _|.ls _ t _ _ _=>[t]
 |_=>[]
def I.gI:I->List Nat
 |.kE d _|.fO d _ _=>[d]
 |.lt _ _ t _|.ls _ t _ _ _=>[t]
 |_=>[]
def I.rs:I->Bool
 |.br .. |.aq .. |.aH .. |.aC .. |.hs .. |.mm .. |.aI .. |.n7 .. |.dH .. |.ap .. |.mQ .. |.mR .. |.q4 .. |.mk .. |.n8 .. |.ak .. |.rg .. |.k7 .. |.aQ .. |.mS .. |.oW .. =>true
 |_=>false
def I.ws:I->Bool
 |.br .. |.aq .. |.aC .. |.hs .. |.mm .. |.n7 .. |.dH .. |.ap .. |.mQ .. |.mR .. |.q4 .. |.mk .. |.n8 .. |.ak .. |.rg .. |.aQ .. |.mS .. |.oW .. =>true
 |_=>false
def cb.rd(g:cb):List Nat:=(match g.g with|some (s,_)=>[s]|none=>[])++g.i.rd
def p4(a b:List Nat):Bool:=a.all λx=>!dk x b
def xZ(x y:cb):Bool:=
 p4 x.i.hw (y.rd++y.i.hw)&&p4 y.i.hw (x.rd++x.i.hw)&&p4 x.i.gI (y.i.oa++y.i.gI)&&p4 y.i.gI x.i.oa
def Dl(x y:cb):Bool:=
 p4 x.i.kl (y.rd++y.i.kl)&&p4 y.i.kl x.rd&&!(x.i.ws&&y.i.rs)&&!(y.i.ws&&x.i.rs)
structure af where
 aP:Nat->ag
 bI:Nat->Option (List ag)
 s:aV
 deriving Inhabited
def cW{α:Type}(f:Nat->α)(k:Nat)(v:α):Nat->α:=λj=>cond (Nat.beq j k) v (f j)
def af.set(st:af)(k:Nat)(v:ag):af:={st with aP:=cW st.aP k v}
def af.dA(st:af)(k:Option Nat)(v:ag):af:=match k with|some k=>st.set k v|none=>st
def af.dX(st:af)(k:Nat)(v:List ag):af:={st with bI:=cW st.bI k (some v)}
def ij(sz:Nat):List D->ag
 |[]=>.gE sz
 |d::l=>.own sz (d::l)
def q5:ag->Bool
 |.own _ _|.gE _|.raw _ _ _=>true
 |_=>false
def snap:ag->ag
 |.own sz l=>.d (.list sz l)
 |.gE sz=>.d (.list sz [])
 |.raw _ _ _=>.undef
 |v=>v
def gJ:ag->ag
 |.own sz []=>.own sz []
 |v=>snap v
def Am:ag->Option D
 |.d x=>some x
 |.own sz l=>some (.list sz l)
 |.gE sz=>some (.list sz [])
 |_=>none
def jr:List ag->Option (List D)
 |[]=>some []
 |v::l=>match Am v with
  |some x=>match jr l with
   |some xs=>some (x::xs)
   |none=>none
  |none=>none
def cE:ag->ag
 |.own sz l=>.d (.list sz l)
 |.gE sz=>.d (.list sz [])
 |.raw _ _ _=>.undef
 |.agg cs=>match jr cs with
  |some ds=>.d (.agg ds)
  |none=>.agg (cs.map snap)
 |v=>v
def hl(v:ag):Option D:=match cE v with|.d x=>some x|_=>none
def D.cells:D->List D
 |.agg cs=>cs
 |x=>[x]
def jt:D->Bool
 |.agg _=>false
 |_=>true
def ft:Bool->D->Bool
 |true,.agg _=>true
 |false,.agg _=>false
 |b,_=>!b
def cellsOf:ag->List ag
 |.agg cs=>cs
 |.d (.agg cs)=>cs.map .d
 |v=>[v]
def vN:ag->Bool
 |.agg _|.d (.agg _)=>true
 |_=>false
def gj(b:UInt8):D:=.int .u8 b.toNat
def gK:ag->Option (Nat×List D)
 |.d (.list sz l)=>some (sz,l)
 |.own sz l=>some (sz,l)
 |.gE sz=>some (sz,[])
 |_=>none
def vO:ag->Option (Nat×List D)
 |.aS _ _ _ _ sz=>some (sz,[.dO])
 |.d (.list sz l)=>some (sz,l)
 |.own sz l=>some (sz,l)
 |.gE sz=>some (sz,[])
 |_=>none
def sx:ag->Option (Nat×List D)
 |.d (.list sz l)=>some (sz,l)
 |.own sz l=>some (sz,l)
 |.gE sz=>some (sz,[])
 |.d (.str s)=>some (1,s.map gj)
 |_=>none
def refs:Nat->ag->List Nat
 |_,.ptr i _=>[i]
 |_,.map i=>[i]
 |_,.aS i _ _ _ _=>[i]
 |n+1,.func _ a c=>(a++c).flatMap (refs n)
 |n+1,.agg cs=>cs.flatMap (refs n)
 |n+1,.tuple cs=>cs.flatMap (refs n)
 |_,_=>[]
def depth:Nat:=5
def b3.refs:b3->List Nat
 |.box cs=>cs.flatMap (aJ.refs depth)
 |.map es=>es.flatMap λe=>aJ.refs depth e.2
 |.hZ m=>m.toList
 |_=>[]
def ren(f:Nat->Nat):Nat->ag->ag
 |_,.ptr i o=>.ptr (f i) o
 |_,.map i=>.map (f i)
 |_,.aS i o l c z=>.aS (f i) o l c z
 |n+1,.func g a c=>.func g (a.map (ren f n)) (c.map (ren f n))
 |n+1,.agg cs=>.agg (cs.map (ren f n))
 |n+1,.tuple cs=>.tuple (cs.map (ren f n))
 |0,.func _ _ _=>.undef
 |0,.agg _=>.undef
 |0,.tuple _=>.undef
 |_,.undef=>.undef
 |_,.d x=>.d x
 |_,.own sz l=>.own sz l
 |_,.gE sz=>.gE sz
 |_,.raw sz n cs=>.raw sz n cs
 |_,.dT _ _=>.undef
 |_,.fT _=>.undef
def b3.ren(f:Nat->Nat):b3->b3
 |.box cs=>.box (cs.map (aJ.ren f depth))
 |.map es=>.map (es.map λe=>(e.1,aJ.ren f depth e.2))
 |.hZ m=>.hZ (m.map f)
 |o=>o
def k8(i:Nat):List Nat->Nat
 |[]=>0
 |j::l=>cond (Nat.beq i j) 0 (k8 i l+1)
def reach(s:aV):Nat->List Nat->List Nat->List Nat
 |0,_,acc=>acc
 |_+1,[],acc=>acc
 |n+1,i::todo,acc=>cond (dk i acc) (reach s n todo acc) (reach s n (todo++(s.getD i .dead).refs) (acc++[i]))
def nodupB:List Nat->Bool
 |[]=>true
 |i::l=>!dk i l&&nodupB l
def closed(s:aV)(ids:List Nat)(args:List ag):Bool:=
 (args.flatMap (refs depth)).all (λi=>dk i ids)&&ids.all λi=>(s.getD i .dead).refs.all λj=>dk j ids
def back(ids:List Nat)(len:Nat)(i:Nat):Nat:=match ids[i]? with|some j=>j|none=>len+(i-ids.length)
def merge(s:aV):List Nat->List b3->aV
 |_,[]=>s
 |[],l=>s++l
 |i::ids,o::l=>merge (s.set i o) ids l
def G1(n:Nat)(l:List Nat):Bool:=l.all λi=>Nat.blt i n
def fB(m:Nat):Nat->ag->Bool
 |_,.ptr i _=>Nat.blt i m
 |_,.map i=>Nat.blt i m
 |_,.aS i _ _ _ _=>Nat.blt i m
 |n+1,.func _ a c=>(a++c).all (fB m n)
 |n+1,.agg cs=>cs.all (fB m n)
 |n+1,.tuple cs=>cs.all (fB m n)
 |0,.func _ _ _=>false
 |0,.agg _=>false
 |0,.tuple _=>false
 |_,.fT i=>Nat.blt i m
 |_,_=>true
def b3.fB(m:Nat):b3->Bool
 |.box cs=>cs.all (aJ.fB m depth)
 |.map es=>es.all λe=>aJ.fB m depth e.2
 |.hZ k=>k.all λi=>Nat.blt i m
 |_=>true
def gc(n:Nat)(r:ag)(s:aV):aV:=
 cond (fB n depth r&&(s.take n).all (b3.fB n)) (s.take n) s
def dU:Nat->ag->Bool
 |_,.dT _ _=>false
 |_,.undef=>false
 |_,.fT _=>false
 |n+1,.func _ a c=>(a++c).all (dU n)
 |n+1,.agg cs=>cs.all (dU n)
 |n+1,.tuple cs=>cs.all (dU n)
 |0,.func _ _ _=>false
 |0,.agg _=>false
 |0,.tuple _=>false
 |_,_=>true
def sy:ag->Bool
 |.undef|.dT _ _|.agg _|.tuple _|.d (.agg _)|.fT _=>false
 |_=>true
def kc(v:ag):Bool:=sy v&&dU depth v
def cF:List Nat->List D->List D->Option Bool
 |[],[],[]=>some true
 |k::ks,a::x,b::y=>match k,a,b with
  |0,.bool p,.bool q=>(cF ks x y).map ((p==q)&& ·)
  |1,.int i p,.int j q=>cond (decide (i=j)) ((cF ks x y).map (decide (p=q)&& ·)) none
  |2,.str p,.str q=>(cF ks x y).map (decide (p=q)&& ·)
  |_,_,_=>none
 |_,_,_=>none
def bytesLess:List UInt8->List UInt8->Bool
 |_,[]=>false
 |[],_::_=>true
 |a::x,b::y=>decide (a<b)||(decide (a=b)&&bytesLess x y)
def An(op:BinOp)(k:IntKind)(a b:Int):Option (Bool×D):=
 match op with
 |.add=>some (true,.int k (k.wrap (a+b)))
 |.sub=>some (true,.int k (k.wrap (a-b)))
 |.mul=>some (true,.int k (k.wrap (a*b)))
 |.quo=>some (decide (b≠0),.int k (k.wrap (a.tdiv b)))
 |.rem=>some (decide (b≠0),.int k (a.tmod b))
 |.and=>some (true,.int k (k.wrap (BitVec.ofInt k.bits a&&& BitVec.ofInt k.bits b).toNat))
 |.or=>some (true,.int k (k.wrap (BitVec.ofInt k.bits a|||BitVec.ofInt k.bits b).toNat))
 |.xor=>some (true,.int k (k.wrap (BitVec.ofInt k.bits a^^^BitVec.ofInt k.bits b).toNat))
 |.andNot=>some (true,.int k (k.wrap (BitVec.ofInt k.bits a&&& ~~~ BitVec.ofInt k.bits b).toNat))
 |.eql=>some (true,.bool (decide (a=b)))
 |.neq=>some (true,.bool (!decide (a=b)))
 |.lss=>some (true,.bool (decide (a<b)))
 |.leq=>some (true,.bool (decide (a<=b)))
 |.gtr=>some (true,.bool (decide (b<a)))
 |.geq=>some (true,.bool (decide (b<=a)))
 |_=>none
def vP(op:BinOp)(k:IntKind)(a b:Int):Option D:=
 match op with
 |.shl=>some (.int k (k.wrap (a*2^(min b.toNat k.bits))))
 |.shr=>some (.int k (a.fdiv (2^(min b.toNat k.bits))))
 |_=>none
def G2:Nat:=4611686018427387904
def Ao(op:BinOp)(a b:List UInt8):Option (Bool×D):=
 match op with
 |.add=>some (decide (a.length+b.length<=G2),.str (a++b))
 |.eql=>some (true,.bool (decide (a=b)))
 |.neq=>some (true,.bool (!decide (a=b)))
 |.lss=>some (true,.bool (bytesLess a b))
 |.leq=>some (true,.bool (bytesLess a b||decide (a=b)))
 |.gtr=>some (true,.bool (!(bytesLess a b||decide (a=b))))
 |.geq=>some (true,.bool (!bytesLess a b))
 |_=>none
def Dm:List UInt8->List UInt8->Int
 |[],[]=>0
 |[],_::_=> -1
 |_::_,[]=>1
 |a::fj,b::bs=>cond (decide (a<b)) (-1) (cond (decide (b<a)) 1 (Dm fj bs))
def G3:Nat->List UInt8->List UInt8->Option D
 |0,a,b=>some (.int .i64 (Dm a b))
 |_,_,_=>none
inductive aA where
 |normal|exit (i:Nat)|ret
 deriving Inhabited,Repr
structure mc(R:Type) where
 fail:R
 guard:Bool->R->R
 call:Nat->List ag->aV->(ag->aV->R)->R
 fix:(af->(af->R)->R)->af->R
 both:R->R->R
 iter:Nat->(aX->R)->R
section
variable {R:Type}(A:mc R)(gl:Nat->List D)
def aK(st:af):O->ag
 |.t n=>st.aP n
 |.c v=>v
 |.g n=>.d (.eY (gl n) 0)
def ato(x:Option D):Option Nat:=match x with|some (.int _ (.ofNat n))=>some n|_=>none
def kG(f:Nat)(args:List ag)(s:aV)(K:ag->aV->R):R:=
 let ids:=reach s (s.length+s.length+8) (args.flatMap (refs depth)) [];let nC:=λi=>k8 i ids;let k9:=back ids s.length;A.guard (G1 s.length ids&&nodupB ids&&closed s ids args&&args.all (dU depth)) <|
 A.call f (args.map (ren nC depth)) (ids.map λi=>(s.getD i .dead).ren nC) λr s'=>
  A.guard (Nat.ble ids.length s'.length) <|
  K (ren k9 depth r) (merge s ids (s'.map (b3.ren k9)))
def valOf(cs:List ag)(off n:Nat)(ah:Bool):ag:=
 cond ah (cE (.agg ((cs.drop off).take n))) (snap (cs.getD off .undef))
def putCells(cs:List ag)(off:Nat):List ag->List ag
 |[]=>cs
 |v::l=>putCells (cs.set off v) (off+1) l
def kill(st:af):O->af
 |.t s=>match st.aP s with
  |.own _ _|.gE _|.raw _ _ _=>st.set s .undef
  |_=>st
 |_=>st
def oY(st:af):List ag->List (Nat×Nat×O)->Option (List ag)
 |cs,[]=>some cs
 |cs,(off,n,x)::ps=>
  let vs:=cellsOf (cE (snap (aK gl st x)));cond (Nat.beq vs.length n&&Nat.ble (off+n) cs.length&&vs.all (dU depth)) (oY st (putCells cs off vs) ps) none
def jC(st:af)(x:O):ag:=match x with
 |.c (.own sz [])=>.own sz []
 |x=>cE (snap (aK gl st x))
def elems(st:af)(sz:Nat):List O->Option (List D)
 |[]=>some []
 |x::xs=>match hl (aK gl st x),elems st sz xs with
  |some d,some l=>cond (Nat.beq d.cells.length sz&&d.cells.all jt) (some (d::l)) none
  |_,_=>none
def bound(st:af)(dflt:Int):Option O->Option Int
 |none=>some dflt
 |some x=>match aK gl st x with
  |.d (.int _ n)=>some n
  |_=>none
def fu(ah:Bool)(ks:List Nat)(k:D):List (D×ag)->Nat->Option (Option Nat)
 |[],_=>some none
 |e::es,i=>cond (ft ah e.1) (match cF ks k.cells e.1.cells with
  |some true=>some (some i)
  |some false=>fu ah ks k es (i+1)
  |none=>none) none
def nD(es:List (D×ag))(k:D)(v:ag):Option Nat->List (D×ag)
 |some j=>es.set j (k,v)
 |none=>es++[(k,v)]
def oc:List D->Option (List UInt8)
 |[]=>some []
 |.int .u8 n::l=>match oc l with
  |some s=>some (UInt8.ofNat n.toNat::s)
  |none=>none
 |_=>none
def p5(st:af)(v:ag)(sz:Nat):Option (List ag×Nat):=
 match v with
 |.aS i off len _ dw=>match st.s.getD i .dead with
  |.box cs=>
   let us:=((cs.drop off).take (len*sz)).map gJ;cond (Nat.beq dw sz&&Nat.ble (off+len*sz) cs.length&&us.all kc) (some (us,len)) none
  |_=>none
 |v=>match sx v with
  |some (dw,l)=>cond (Nat.beq dw sz) (some ((l.flatMap D.cells).map ag.d,l.length)) none
  |none=>none
def chunks(sz:Nat):Nat->List D->List D
 |0,_=>[]
 |n+1,l=>(cond (Nat.beq sz 1) (l.headD .dO) (.agg (l.take sz)))::chunks sz n (l.drop sz)
def p6(st:af)(v:ag):Option (Nat×List D):=
 match v with
 |.aS i off len _ sz=>match st.s.getD i .dead with
  |.box cs=>cond (Nat.ble (off+len*sz) cs.length) (match jr ((cs.drop off).take (len*sz))with
   |some l=>cond (l.all jt) (some (sz,chunks sz len l)) none
   |none=>none) none
  |_=>none
 |v=>sx v
def oZ(s:aV):ag->Option (D×Nat)
 |.aS k off len cap sz=>match s.getD k .dead with
  |.box bs=>cond (Nat.ble len cap&&Nat.blt 0 sz&&Nat.ble (off+len*sz) bs.length) (match jr ((bs.drop off).take (len*sz))with
   |some l=>cond (l.all jt) (some (.list sz (chunks sz len l),k)) none
   |none=>none) none
  |_=>none
 |_=>none
def Ap(s:aV)(i j:Nat):Option aV:=
 match s.getD i .dead with
 |.box cs=>match cs.getD j .undef with
  |.aS k off len cap sz=>match oZ s (.aS k off len cap sz)with
   |some (y,k)=>cond (Nat.beq k i) none (some ((s.set k .dead).set i (.box (cs.set j (.d y)))))
   |none=>none
  |_=>some s
 |_=>none
def sA(i:Nat):aV->Nat->Nat->Option aV
 |s,_,0=>some s
 |s,j,n+1=>match Ap s i j with
  |some s'=>sA i s' (j+1) n
  |none=>none
def fb.val:fb->ag
 |.d x=>.d x
 |.nil z=>.own z []
def G4:ag->Option fb
 |.d x=>some (.d x)
 |.own z []=>some (.nil z)
 |_=>none
def ug:List ag->Option (List fb)
 |[]=>some []
 |v::l=>match G4 v,ug l with
  |some x,some xs=>some (x::xs)
  |_,_=>none
def ju(cs:List fb):List ag:=cs.map fb.val
def vQ(s:aV)(i j:Nat):Option aV:=match s.getD i .dead with
 |.box cs=>match cs.getD j .undef with
  |.raw sz n us=>some (s.set i (.box (cs.set j (.aS s.length 0 n n sz)))++[.box (ju us)])
  |_=>some s
 |_=>none
def p7(i:Nat):aV->Nat->Nat->Option aV
 |s,_,0=>some s
 |s,j,n+1=>match vQ s i j with
  |some s'=>p7 i s' (j+1) n
  |none=>none
def hz(nw rw:Bool)(d s:Nat)(x:O)(sz b2:Nat)(st:af)(K:af->R):R:=
 match st.aP s with
 |.own ej l=>cond (nw&&l.isEmpty)
  (match p5 st (aK gl st x) sz with
   |some (_,0)=>K (st.set d (.own sz []))
   |some (us,k)=>cond rw (match ug us with
    |some cs=>A.guard (Nat.beq ej sz&&Nat.ble k b2) (K (st.set d (.raw sz k cs)))
    |none=>A.fail) (A.guard (Nat.beq ej sz&&Nat.ble k b2) (K ({st with s:=st.s++[b3.box us]}.set d (.aS st.s.length 0 k k sz))))
   |none=>A.fail)
  (match p6 st (aK gl st x)with
   |some (dw,l2)=>A.guard (Nat.beq ej sz&&Nat.beq dw sz&&Nat.ble (l.length+l2.length) b2) (K ((st.set s .undef).set d (.own sz (l++l2))))
   |none=>A.fail)
 |.raw ej n cs=>match p5 st (aK gl st x) sz with
  |some (us,k)=>match ug us with
   |some gA=>A.guard (Nat.beq ej sz&&Nat.ble (n+k) b2) (K ((st.set s .undef).set d (.raw sz (n+k) (cs++gA))))
   |none=>A.fail
  |none=>A.fail
 |.aS i off len cap ej=>match st.s.getD i .dead,p5 st (aK gl st x) sz with
  |.box cs,some (us,k)=>
   A.guard (Nat.beq ej sz&&Nat.ble (len+k) b2) <| cond (Nat.ble (len+k) cap)
    (A.guard (Nat.ble (off+(len+k)*sz) cs.length) (K ({st with s:=st.s.set i (.box (putCells cs (off+len*sz) us))}.set d (.aS i off (len+k) cap sz))))
    (A.guard (Nat.beq off 0&&Nat.ble (len*sz) cs.length) (K ({st with s:=st.s.set i .dead++[b3.box (cs.take (len*sz)++us)]}.set d (.aS st.s.length 0 (len+k) (len+k) sz))))
  |_,_=>A.fail
 |.gE ej=>match p6 st (aK gl st x)with
  |some (dw,l2)=>A.guard (Nat.beq ej sz&&Nat.beq dw sz&&Nat.ble l2.length b2) (K ((st.set s .undef).set d (ij sz l2)))
  |none=>A.fail
 |_=>A.fail
def step(i:I)(st:af)(K:af->R):R:=
 match i with
 |.cS d x=>K (st.set d (snap (aK gl st x)))
 |.hb d s=>K ((st.set s .undef).set d (st.aP s))
 |.eZ d x=>K ((kill st x).set d (aK gl st x))
 |.ei d c a b=>match aK gl st c with
  |.d (.bool t)=>cond t (K (st.set d (snap (aK gl st a)))) (K (st.set d (snap (aK gl st b))))
  |_=>A.fail
 |.kE d z=>match st.bI d with
  |none=>K ((st.dX d z).set d (.dT d 0))
  |some _=>A.fail
 |.fO d x n=>match st.bI d with
  |none=>
   let cs:=cellsOf (gJ (aK gl st x));A.guard (Nat.beq cs.length n&&cs.all (dU depth)) (K ((st.dX d cs).set d (.dT d 0)))
  |some _=>A.fail
 |.br d z=>K ({st with s:=st.s++[b3.box z]}.set d (.ptr st.s.length 0))
 |.aq d x n=>
  let cs:=cellsOf (gJ (aK gl st x));A.guard (Nat.beq cs.length n&&cs.all (dU depth)) (K ({st with s:=st.s++[b3.box cs]}.set d (.ptr st.s.length 0)))
 |.vJ d z ps=>match oY gl st z ps with
  |some cs=>K (st.set d (.agg cs))
  |none=>A.fail
 |.li d sz xs=>match elems gl st sz xs with
  |some l=>K (st.set d (.own sz l))
  |none=>A.fail
 |.hN d a t off n ah=>match aK gl st a,st.bI t with
  |.dT ek dI,some cs=>
   A.guard (Nat.beq ek t&&Nat.beq dI off&&Nat.ble (off+n) cs.length) (K (st.set d (valOf cs off n ah)))
  |_,_=>A.fail
 |.lt d a t off=>match aK gl st a,st.bI t with
  |.dT ek dI,some cs=>
   A.guard (Nat.beq ek t&&Nat.beq dI off&&Nat.blt off cs.length) (K ((st.dX t (cs.set off .undef)).set d (cs.getD off .undef)))
  |_,_=>A.fail
 |.ls a t off x n=>match aK gl st a,st.bI t with
  |.dT ek dI,some cs=>
   let vs:=cellsOf (aK gl st x);A.guard (Nat.beq ek t&&Nat.beq dI off&&Nat.beq vs.length n&&Nat.ble (off+n) cs.length&&vs.all kc) (K ((kill st x).dX t (putCells cs off vs)))
  |_,_=>A.fail
 |.aH d a n ah=>match aK gl st a with
  |.ptr i off=>match st.s.getD i .dead with
   |.box cs=>A.guard (Nat.ble (off+n) cs.length&&(ah||Nat.beq n 1)) (K (st.set d (valOf cs off n ah)))
   |_=>A.fail
  |.d (.eY cs off)=>A.guard (Nat.ble (off+n) cs.length) (K (st.set d (.d (cond ah (.agg ((cs.drop off).take n)) (cs.getD off .dO)))))
  |_=>A.fail
 |.aC d a=>match aK gl st a with
  |.ptr i off=>match st.s.getD i .dead with
   |.box cs=>A.guard (Nat.blt off cs.length) (K ({st with s:=st.s.set i (.box (cs.set off .undef))}.set d (cs.getD off .undef)))
   |_=>A.fail
  |_=>A.fail
 |.hs a x n=>match aK gl st a with
  |.ptr i off=>match st.s.getD i .dead with
   |.box cs=>
    let vs:=cellsOf (aK gl st x);A.guard (Nat.beq vs.length n&&Nat.ble (off+n) cs.length&&vs.all kc) (K {kill st x with s:=st.s.set i (.box (putCells cs off vs))})
   |_=>A.fail
  |_=>A.fail
 |.vK d x=>match aK gl st x with
  |.ptr i o=>K (st.set d (.ptr i o))
  |.dT t o=>K (st.set d (.dT t o))
  |.d (.eY cs o)=>K (st.set d (.d (.eY cs o)))
  |.d (.fn f)=>K (st.set d (.d (.fn f)))
  |.func f a c=>K (st.set d (.func f a c))
  |_=>A.fail
 |.bi d op x y=>match aK gl st x,aK gl st y with
  |.d (.int k a),.d (.int k' b)=>match vP op k a b with
   |some r=>A.guard (decide (0<=b)) (K (st.set d (.d r)))
   |none=>match An op k a b with
    |some (ok,r)=>A.guard (decide (k=k')) (A.guard ok (K (st.set d (.d r))))
    |none=>A.fail
  |.d (.str a),.d (.str b)=>match Ao op a b with
   |some (ok,r)=>A.guard ok (K (st.set d (.d r)))
   |none=>A.fail
  |_,_=>A.fail
 |.eq d neg ah ks x y=>match hl (aK gl st x),hl (aK gl st y)with
  |some a,some b=>A.guard (ft ah a&&ft ah b) <| match cF ks a.cells b.cells with
   |some r=>K (st.set d (.d (.bool (cond neg (!r) r))))
   |none=>A.fail
  |_,_=>A.fail
 |.un d op x=>match op,aK gl st x with
  |.not,.d (.bool b)=>K (st.set d (.d (.bool (!b))))
  |.neg,.d (.int k n)=>K (st.set d (.d (.int k (k.wrap (0-n)))))
  |.xor,.d (.int k n)=>K (st.set d (.d (.int k (k.wrap (BitVec.ofInt k.bits (if k.signed then -1 else k.max)^^^BitVec.ofInt k.bits n).toNat))))
  |_,_=>A.fail
 |.ci d k x=>match aK gl st x with
  |.d (.int _ n)=>K (st.set d (.d (.int k (k.wrap n))))
  |_=>A.fail
 |.cs d x=>match aK gl st x with
  |.d (.str s)=>K (st.set d (.d (.str s)))
  |_=>A.fail
 |.h3 d x=>match aK gl st x with
  |.d (.str s)=>K (st.set d (.d (.list 1 (s.map gj))))
  |_=>A.fail
 |.bs d x=>match gK (aK gl st x)with
  |some (_,l)=>match oc l with
   |some s=>K (st.set d (.d (.str s)))
   |none=>A.fail
  |none=>A.fail
 |.gF d x off=>match aK gl st x with
  |.ptr i o=>K (st.set d (.ptr i (o+off)))
  |.dT t o=>K (st.set d (.dT t (o+off)))
  |.d (.eY cs o)=>K (st.set d (.d (.eY cs (o+off))))
  |_=>A.fail
 |.fd d x off n ah=>
  let cs:=cellsOf (aK gl st x);A.guard (vN (aK gl st x)&&Nat.ble (off+n) cs.length) (K (st.set d (valOf cs off n ah)))
 |.lF d x i sz=>match aK gl st i with
  |.d (.int _ n)=>match aK gl st x with
   |.aS j off len _ h5=>A.guard (Nat.beq h5 sz&&decide (0<=n)&&decide (n<len)) (K (st.set d (.ptr j (off+n.toNat*sz))))
   |v=>match gK v with
    |some (h5,l)=>A.guard (Nat.beq h5 sz&&decide (0<=n)&&decide (n<l.length)) (K (st.set d (.d (.eY (l.getD n.toNat .dO).cells 0))))
    |none=>A.fail
  |_=>A.fail
 |.aa d x i len sz=>match aK gl st i with
  |.d (.int _ n)=>A.guard (decide (0<=n)&&decide (n<len)) <| match aK gl st x with
   |.ptr j o=>K (st.set d (.ptr j (o+n.toNat*sz)))
   |.dT t o=>K (st.set d (.dT t (o+n.toNat*sz)))
   |.d (.eY cs o)=>K (st.set d (.d (.eY cs (o+n.toNat*sz))))
   |_=>A.fail
  |_=>A.fail
 |.ma d x i=>match aK gl st x,aK gl st i with
  |.d (.str s),.d (.int _ n)=>A.guard (decide (0<=n)&&decide (n<s.length)) (K (st.set d (.d (gj (s.getD n.toNat 0)))))
  |_,_=>A.fail
 |.ss d x lo hi=>match aK gl st x with
  |.d (.str s)=>match bound gl st 0 lo,bound gl st s.length hi with
   |some l,some h=>A.guard (decide (0<=l)&&decide (l<=h)&&decide (h<=s.length)) (K (st.set d (.d (.str ((s.drop l.toNat).take (h.toNat-l.toNat))))))
   |_,_=>A.fail
  |_=>A.fail
 |.aS d hn x lo hi mx=>match aK gl st x with
  |.aS j off len cap sz=>match bound gl st 0 lo,bound gl st len hi,bound gl st cap mx with
   |some l,some h,some m=>A.guard (Nat.beq sz hn&&decide (0<=l)&&decide (l<=h)&&decide (h<=m)&&decide (m<=cap)) (K (st.set d (cond (decide (l=m)) (.d (.list sz [])) (.aS j (off+l.toNat*sz) (h.toNat-l.toNat) (m.toNat-l.toNat) sz))))
   |_,_,_=>A.fail
  |v=>match gK v with
  |some (sz,s)=>match bound gl st 0 lo,bound gl st s.length hi,bound gl st s.length mx with
   |some l,some h,some m=>A.guard (Nat.beq sz hn&&decide (0<=l)&&decide (l<=h)&&decide (h<=m)&&decide (m<=s.length)) (K (st.set d (.d (.list sz ((s.drop l.toNat).take (h.toNat-l.toNat))))))
   |_,_,_=>A.fail
  |none=>A.fail
 |.em d x=>match aK gl st x with
  |.aS _ _ _ _ sz=>K (st.set d (.own sz []))
  |v=>match gK v with
   |some (sz,_)=>K (st.set d (.own sz []))
   |none=>A.fail
 |.vL d f first gD=>match first,gD with
  |[],[]=>K (st.set d (.d (.fn f)))
  |_,_=>
   let fj:=first.map λx=>cE (snap (aK gl st x))
   let cs:=gD.map λx=>cE (snap (aK gl st x));A.guard (fj.all (dU depth)&&cs.all (dU depth)) (K (st.set d (.func f fj cs)))
 |.dH d f args=>match aK gl st f with
  |.d (.fn f)=>kG A f (args.map (jC gl st)) st.s λr s'=>K ({st with s:=s'}.dA d r)
  |.func f a c=>kG A f (a++args.map (jC gl st)++c) st.s λr s'=>K ({st with s:=s'}.dA d r)
  |_=>A.fail
 |.ap d s x sz b2=>hz A gl false false d s x sz b2 st K
 |.mQ d s x sz b2=>hz A gl true false d s x sz b2 st K
 |.mR d s x sz b2=>hz A gl true true d s x sz b2 st K
 |.kF d s z i x sz b2=>match st.aP s,sx (st.aP z),st.aP i,hl (aK gl st x)with
  |.own ej l,some (dw,[_]),.d (.int _ n),some kH=>
   A.guard (Nat.beq ej sz&&Nat.beq dw sz&&decide (n=l.length)&&Nat.ble (l.length+1) b2&&Nat.beq kH.cells.length sz&&kH.cells.all jt) (K ((st.set s .undef).set d (.own sz (l++[kH]))))
  |_,_,_,_=>A.fail
 |.q4 d sz xs=>
  let vs:=xs.map λx=>cellsOf (gJ (aK gl st x));A.guard (!xs.isEmpty&&vs.all λl=>Nat.beq l.length sz&&l.all kc) (K ({st with s:=st.s++[b3.box vs.flatten]}.set d (.aS st.s.length 0 xs.length xs.length sz)))
 |.mk d sz z n b2=>match aK gl st n with
  |.d (.int _ n)=>A.guard (decide (0<=n)&&decide (n<=b2)) (K ({st with s:=st.s++[b3.box (List.replicate n.toNat z).flatten]}.set d (.aS st.s.length 0 n.toNat n.toNat sz)))
  |_=>A.fail
 |.n8 d x z=>match aK gl st x with
  |.aS i off len _ sz=>match st.s.getD i .dead with
   |.box cs=>A.guard (Nat.beq z.length sz&&Nat.ble (off+len*sz) cs.length) (K ({st with s:=st.s.set i (.box (putCells cs off (List.replicate len z).flatten))}.dA d (.tuple [])))
   |_=>A.fail
  |v=>match gK v with
   |some (_,[])=>K (st.dA d (.tuple []))
   |_=>A.fail
 |.vM d x i len sz ah=>match aK gl st i with
  |.d (.int _ n)=>
   let cs:=cellsOf (aK gl st x);A.guard (decide (0<=n)&&decide (n<len)&&vN (aK gl st x)&&Nat.ble (n.toNat*sz+sz) cs.length) (K (st.set d (valOf cs (n.toNat*sz) sz ah)))
  |_=>A.fail
 |.ak d t e=>K ({st with s:=st.s++[b3.hM t e []]}.set d (.ptr st.s.length 0))
 |.rg d x=>match aK gl st x with
  |.d .hj=>K ({st with s:=st.s++[b3.hZ none]}.set d (.ptr st.s.length 0))
  |.map i=>A.guard (match st.s.getD i .dead with|.map _=>true|_=>false) (K ({st with s:=st.s++[b3.hZ (some i)]}.set d (.ptr st.s.length 0)))
  |_=>A.fail
 |.k7 d x=>match aK gl st x with
  |.ptr j 0=>match st.s.getD j .dead with
   |.hZ none=>K (st.set d (.tuple [.d (.bool false)]))
   |.hZ (some i)=>match st.s.getD i .dead with
    |.map []=>K (st.set d (.tuple [.d (.bool false)]))
    |_=>A.fail
   |_=>A.fail
  |_=>A.fail
 |.so d s hn x=>match st.aP s,aK gl st x with
  |.own sz l,.d (.int _ n)=>A.guard (Nat.beq sz hn&&decide (0<=n)&&decide (n<=l.length)&&!l.isEmpty) (K ((st.set s .undef).set d (ij sz (l.drop n.toNat))))
  |_,_=>A.fail
 |.mS d own x=>match aK gl st x with
  |.aS k off len cap sz=>match oZ st.s (.aS k off len cap sz)with
   |some (y,k)=>K ({st with s:=st.s.set k .dead}.set d (cond own (match y with|.list sz l=>ij sz l|y=>.d y) (.d y)))
   |none=>A.fail
  |v=>K ((kill st x).set d v)
 |.aQ d a n=>match aK gl st a with
  |.ptr i off=>match sA i st.s off n with
   |some s'=>match s'.getD i .dead with
    |.box cs=>A.guard (Nat.ble (off+n) cs.length) (K ({st with s:=s'}.set d (valOf cs off n true)))
    |_=>A.fail
   |none=>A.fail
  |_=>A.fail
 |.oW d x=>match x with
  |.t s=>match st.aP s with
   |.raw sz n cs=>K (({st with s:=st.s++[b3.box (ju cs)]}.set s (.aS st.s.length 0 n n sz)).set d (.aS st.s.length 0 n n sz))
   |.ptr i off=>match st.s.getD i .dead with
    |.box cs=>match p7 i st.s 0 cs.length with
     |some s'=>K ({st with s:=s'}.set d (.ptr i off))
     |none=>A.fail
    |_=>A.fail
   |v=>K (st.set d (snap v))
  |_=>A.fail
 |.bad _=>A.fail
 |.lG d=>K (st.dA d .undef)
 |.mP d str x=>match aK gl st x with
  |.aS _ _ len _ _=>A.guard (!str) (K (st.set d (.d (.int .i64 len))))
  |.d (.str s)=>A.guard str (K (st.set d (.d (.int .i64 s.length))))
  |v=>match gK v with
   |some (_,l)=>A.guard (!str) (K (st.set d (.d (.int .i64 l.length))))
   |none=>A.fail
 |.ex d x i=>match aK gl st x with
  |.tuple vs=>A.guard (Nat.blt i vs.length) (K (st.set d (vs.getD i .undef)))
  |_=>A.fail
 |.mm d=>K ({st with s:=st.s++[b3.map []]}.set d (.map st.s.length))
 |.aI d ah ks m k z ok=>match hl (aK gl st k)with
  |none=>A.fail
  |some k=>A.guard (ft ah k&&(cF ks k.cells k.cells).isSome) <| match aK gl st m with
   |.d .hj=>K (st.set d (cond ok (.tuple [cE z,.d (.bool false)]) (cE z)))
   |.d (.k6 kl vl)=>match fu ah ks k ((kl.zip vl).map λe=>(e.1,.d e.2)) 0 with
    |some none=>K (st.set d (cond ok (.tuple [cE z,.d (.bool false)]) (cE z)))
    |some (some j)=>match vl[j]? with
     |some v=>K (st.set d (cond ok (.tuple [.d v,.d (.bool true)]) (.d v)))
     |none=>A.fail
    |none=>A.fail
   |.map i=>match st.s.getD i .dead with
    |.map es=>match fu ah ks k es 0 with
     |some none=>K (st.set d (cond ok (.tuple [cE z,.d (.bool false)]) (cE z)))
     |some (some j)=>match es[j]? with
      |some e=>K (st.set d (cond ok (.tuple [e.2,.d (.bool true)]) e.2))
      |none=>A.fail
     |none=>A.fail
    |_=>A.fail
   |_=>A.fail
 |.n7 ah ks m k x=>match aK gl st m,hl (aK gl st k)with
  |.map i,some k=>match st.s.getD i .dead with
   |.map es=>match fu ah ks k es 0 with
    |some j=>A.guard (dU depth (cE (aK gl st x))&&ft ah k&&(cF ks k.cells k.cells).isSome) (K {st with s:=st.s.set i (.map (nD es k (cE (aK gl st x)) j))})
    |none=>A.fail
   |_=>A.fail
  |_,_=>A.fail
 |.p2 d lt x y=>match aK gl st x,aK gl st y with
  |.d (.int k a),.d (.int k' b)=>A.guard (decide (k=k')) (K (st.set d (.d (.int k (cond (cond lt (decide (b<a)) (decide (a<b))) b a)))))
  |_,_=>A.fail
 |.mb d neg hk x=>match hk with
  |0=>match vO (aK gl st x)with
   |some (_,_::_)=>K (st.set d (.d (.bool neg)))
   |some (_,[])=>A.both (K (st.set d (.d (.bool neg)))) (K (st.set d (.d (.bool (!neg)))))
   |none=>A.fail
  |1=>match aK gl st x with
   |.map _=>K (st.set d (.d (.bool neg)))
   |.d .hj=>K (st.set d (.d (.bool (!neg))))
   |_=>A.fail
  |2=>match aK gl st x with
   |.func _ _ _|.d (.fn _)=>K (st.set d (.d (.bool neg)))
   |.d .k5=>K (st.set d (.d (.bool (!neg))))
   |_=>A.fail
  |4=>match aK gl st x with
   |.d (.iface _ _)|.d .hL=>K (st.set d (.d (.bool neg)))
   |.d .ig=>K (st.set d (.d (.bool (!neg))))
   |_=>A.fail
  |3=>match aK gl st x with
   |.ptr _ _|.d (.eY _ _)=>K (st.set d (.d (.bool neg)))
   |.d .dO=>K (st.set d (.d (.bool (!neg))))
   |_=>A.fail
  |_=>A.fail
 |.b7 d k x y=>match aK gl st x,aK gl st y with
  |.d (.str a),.d (.str b)=>match G3 k a b with
   |some r=>K (st.set d (.d r))
   |none=>A.fail
  |_,_=>A.fail
 |.p3 d f args=>
  let vs:=args.map λx=>cE (snap (aK gl st x));A.guard ((vs.flatMap (refs depth)).isEmpty&&vs.all (dU depth)) <| A.call f vs [] λr s'=>A.guard (s'.isEmpty&&(refs depth r).isEmpty) (K (st.dA d r))
def steps:List cb->af->(af->R)->R
 |[],st,K=>K st
 |⟨none,i⟩::l,st,K=>step A gl i st λst=>steps l st K
 |⟨some (s,want),i⟩::l,st,K=>match st.aP s with
  |.d (.bool b)=>cond (cond want b (!b)) (step A gl i st λst=>steps l st K) (steps l (st.dA i.dst (.tuple [])) K)
  |.tuple []=>steps l (st.dA i.dst (.tuple [])) K
  |_=>A.fail
structure iW where
 r:List (Nat×Nat×Nat):=[]
 w:List (Nat×Nat×Nat):=[]
 k:List Nat:=[]
 a:Option Nat:=none
 v:List (Nat×Nat×List ag):=[]
 c:Option (List Nat×aV×aV):=none
 deriving Inhabited
def big:Nat:=1000000000000
def kI(st:af):O->List Nat
 |.t s=>match st.aP s with
  |.own _ _|.gE _|.raw _ _ _=>[s]
  |_=>[]
 |_=>[]
def Dn(st aU:af)(args:List ag):iW:=
 {a:=some st.s.length,c:=some (reach st.s (st.s.length+st.s.length+8) (args.flatMap (refs depth)) [],st.s,aU.s)}
def p8(v:ag):List (Nat×Nat×Nat):=match v with
 |.aS i _ _ _ _=>[(i,0,big)]
 |_=>[]
def gk(i:I)(st aU:af):iW:=
 match i with
 |.aH _ a n _=>match aK gl st a with
  |.ptr i off=>match st.s.getD i .dead with
   |.box cs=>{r:=[(i,off,n)],v:=[(i,off,(cs.drop off).take n)]}
   |_=>{}
  |_=>{}
 |.aC _ a=>match aK gl st a with
  |.ptr i off=>{w:=[(i,off,1)]}
  |_=>{}
 |.hs a x n=>match aK gl st a with
  |.ptr i off=>{w:=[(i,off,n)],k:=kI st x}
  |_=>{k:=kI st x}
 |.eZ _ x|.ls _ _ _ x _=>{k:=kI st x}
 |.aI _ _ _ m _ _ _=>match aK gl st m with
  |.map i=>{r:=[(i,0,big)]}
  |_=>{}
 |.n7 _ _ m _ _=>match aK gl st m with
  |.map i=>{w:=[(i,0,big)]}
  |_=>{}
 |.br .. |.aq .. |.mm .. |.mk .. |.q4 .. |.ak .. =>{a:=some st.s.length}
 |.rg _ x=>match aK gl st x with
  |.map i=>{r:=[(i,0,big)],a:=some st.s.length}
  |_=>{a:=some st.s.length}
 |.k7 _ x=>match aK gl st x with
  |.ptr j _=>match st.s.getD j .dead with
   |.hZ (some i)=>{r:=[(j,0,big),(i,0,big)]}
   |_=>{r:=[(j,0,big)]}
  |_=>{}
 |.n8 _ x _=>match aK gl st x with
  |.aS i _ _ _ _=>{w:=[(i,0,big)]}
  |_=>{}
 |.ap _ s x _ _|.mQ _ s x _ _|.mR _ s x _ _=>match st.aP s with
  |.aS i _ _ _ _=>{r:=p8 (aK gl st x),w:=[(i,0,big)],a:=some st.s.length}
  |_=>{r:=p8 (aK gl st x),a:=some st.s.length}
 |.dH _ f args=>match aK gl st f with
  |.d (.fn _)=>Dn st aU (args.map (jC gl st))
  |.func _ a c=>Dn st aU (a++args.map (jC gl st)++c)
  |_=>{}
 |_=>{}
def me(a b:List (Nat×Nat×Nat)):Bool:=
 a.all λx=>b.all λy=>!Nat.beq x.1 y.1||(!Nat.beq x.2.2 big&&!Nat.beq y.2.2 big&&(Nat.ble (x.2.1+x.2.2) y.2.1||Nat.ble (y.2.1+y.2.2) x.2.1))
mutual
def kd:D->D->Bool
 |.bool a,.bool b=>a==b
 |.int k a,.int j b=>decide (k=j)&&decide (a=b)
 |.str a,.str b=>decide (a=b)
 |.list z a,.list y b=>Nat.beq z y&&sB a b
 |.agg a,.agg b=>sB a b
 |.dO,.dO=>true
 |.hj,.hj=>true
 |.k5,.k5=>true
 |.ig,.ig=>true
 |.fn a,.fn b=>Nat.beq a b
 |.eY a n,.eY b m=>sB a b&&Nat.beq n m
 |.iface a x,.iface b y=>Nat.beq a b&&kd x y
 |_,_=>false
def sB:List D->List D->Bool
 |[],[]=>true
 |x::a,y::b=>kd x y&&sB a b
 |_,_=>false
end
def Dp:ag->ag->Bool
 |.d a,.d b=>kd a b
 |.own z a,.own y b=>Nat.beq z y&&sB a b
 |.ptr i o,.ptr j p=>Nat.beq i j&&Nat.beq o p
 |.map i,.map j=>Nat.beq i j
 |.aS i o l c z,.aS iI o' bC c' z'=>Nat.beq i iI&&Nat.beq o o'&&Nat.beq l bC&&Nat.beq c c'&&Nat.beq z z'
 |_,_=>false
def x0:List ag->List ag->Bool
 |[],[]=>true
 |x::a,y::b=>Dp x y&&x0 a b
 |_,_=>false
def sameAt(s:aV)(c:Nat×Nat×List ag):Bool:=match s.getD c.1 .dead with
 |.box cs=>Nat.ble (c.2.1+c.2.2.length) cs.length&&x0 c.2.2 ((cs.drop c.2.1).take c.2.2.length)
 |_=>false
def o0(f g:iW):Bool:=match f.c with
 |none=>true
 |some (ids,fv,s)=>g.c.isNone&&g.w.all (λc=>!dk c.1 ids)&&(g.r.all (λc=>!dk c.1 ids)||(g.w.isEmpty&&g.v.all (λc=>!dk c.1 ids||(sameAt fv c&&sameAt s c))&&Nat.beq g.r.length 1&&Nat.beq g.v.length 1))
def q6(f g:iW):Bool:=match f.a with
 |none=>true
 |some n=>g.a.isNone&&g.r.all (λc=>Nat.blt c.1 n)&&g.w.all (λc=>Nat.blt c.1 n)
def Aq(x:cb)(en:iW)(y:cb)(fk:iW):Bool:=
 p4 en.k (y.rd++y.i.hw)&&p4 fk.k (x.rd++x.i.hw)&&me en.w (fk.r++fk.w)&&me fk.w en.r&&o0 en fk&&o0 fk en&&q6 en fk&&q6 fk en
def x1(g:cb)(st aU:af):iW:=match g.g with
 |none=>gk gl g.i st aU
 |some (s,want)=>match st.aP s with
  |.d (.bool b)=>cond (cond want b (!b)) (gk gl g.i st aU) {}
  |_=>{}
def jQ(i:I)(st:af):Option (b3×Nat×(Nat->ag)):=
 match i with
 |.br d z=>some (.box z,d,λi=>.ptr i 0)
 |.aq d x n=>
  let cs:=cellsOf (gJ (aK gl st x));cond (Nat.beq cs.length n&&cs.all (dU depth)) (some (.box cs,d,λi=>.ptr i 0)) none
 |.mm d=>some (.map [],d,λi=>.map i)
 |.mk d sz z n b2=>match aK gl st n with
  |.d (.int _ n)=>cond (decide (0<=n)&&decide (n<=b2)) (some (.box (List.replicate n.toNat z).flatten,d,λi=>.aS i 0 n.toNat n.toNat sz)) none
  |_=>none
 |_=>none
def hO:I->Bool
 |.br .. |.aq .. |.mm .. |.mk .. =>true
 |_=>false
def o1(l:List cb):Nat:=match l with
 |[]=>0
 |g::l=>cond (hO g.i) (o1 l+1) (o1 l)
def step1(g:cb)(st:af)(K:af->R):R:=match g.g with
 |none=>step A gl g.i st K
 |some (s,want)=>match st.aP s with
  |.d (.bool b)=>cond (cond want b (!b)) (step A gl g.i st K) (K (st.dA g.i.dst (.tuple [])))
  |.tuple []=>K (st.dA g.i.dst (.tuple []))
  |_=>A.fail
def ke(id:Nat)(g:cb)(st:af)(K:af->R):R:=cond (hO g.i)
 (match g.g,jQ gl g.i st with
  |none,some (o,d,v)=>A.guard (Nat.blt id st.s.length) (K ({st with s:=st.s.set id o}.set d (v id)))
  |_,_=>A.fail)
 (step1 A gl g st K)
def uh(id:Nat)(g:cb)(st aU:af):iW:=cond (hO g.i) {w:=[(id,0,big)]} (x1 gl g st aU)
def p9:List cb->List (List Nat)->List (cb×iW)->Nat->af->(af->R)->R
 |[],_,_,_,st,K=>K st
 |g::l,dz,acc,id,st,K=>
  ke A gl id g st λaU=>
  A.guard ((dz.headD []).all λi=>match acc[i]? with
   |some (x,en)=>Aq x en g (uh gl id g st aU)
   |none=>false) <|
  p9 l dz.tail (acc++[(g,uh gl id g st aU)]) (cond (hO g.i) (id+1) id) aU K
def af.room(st:af)(n:Nat):af:={st with s:=st.s++List.replicate n .dead}
def qa(l:List cb)(dz:List (List Nat))(st:af)(K:af->R):R:=p9 A gl l dz [] st.s.length (st.room (o1 l)) K
def sC(aP:Nat->ag):List Nat->Nat->ag
 |[]=>λ_=>.undef
 |s::l=>cW (sC aP l) s (aP s)
def sD(bI:Nat->Option (List ag)):List Nat->Nat->Option (List ag)
 |[]=>λ_=>none
 |s::l=>cW (sD bI l) s (bI s)
def keeps(aP:Nat->ag)(bs:List Nat):List Nat->Bool
 |[]=>true
 |s::l=>(match aP s with|.dT t _=>dk t bs|_=>true)&&keeps aP bs l
def okB(n:Nat)(bI:Nat->Option (List ag))(t:Nat):Bool:=match bI t with
 |some cs=>cs.all (fB n depth)
 |none=>true
def Dq(n:Nat)(ts bs:List Nat)(st:af):af:=
 ⟨sC st.aP ts,sD st.bI bs,cond (ts.all (λt=>fB n depth (st.aP t))&&bs.all (okB n st.bI)&&(st.s.take n).all (b3.fB n)) (st.s.take n) st.s⟩
def forget(n:Nat)(ts bs:List Nat)(st:af)(K:af->R):R:=
 A.guard (keeps st.aP bs ts) (K (Dq n ts bs st))
def la:ag->ag
 |.own sz l=>.d (.list sz l)
 |.gE sz=>.d (.list sz [])
 |.raw _ _ _=>.undef
 |.dT _ _=>.undef
 |v=>v
def af.la(st:af):af:=⟨λt=>aJ.la (st.aP t),λ_=>none,st.s⟩
def x2(aP:Nat->ag):List Nat->List ag->Nat->ag
 |p::ps,v::vs=>x2 (cW aP p v) ps vs
 |_,_=>aP
def q7:List ag->Nat->Nat->ag
 |[],_=>λ_=>.tuple []
 |v::l,n=>cW (q7 l (n+1)) n v
abbrev iJ(R:Type):=List ag->aV->(Option aA->aV->R)->R
def Ar(Y:iJ R)(d:Option Nat)(args:List O)(st:af)(p:Option aA)(K:af->Option aA->R):R:=
 A.guard (p.isNone&&(args.map λx=>cE (snap (aK gl st x))).all (dU depth)) <|
 Y (args.map λx=>cE (snap (aK gl st x))) st.s λp' s'=>K ({st.la with s:=s'}.dA d (.d (.bool p'.isNone))) p'
def Au(st:af):I->ag
 |.dH _ f _=>aK gl st f
 |_=>.undef
def mf(Y:iJ R)(yi:Nat)(i:I)(st:af)(p:Option aA)(K:af->Option aA->R):R:=
 match Au gl st i,i with
 |.fT j,.dH d _ args=>A.guard (Nat.beq j yi) (Ar A gl Y d args st p K)
 |_,i=>step A gl i st λst=>K st p
def hP(Y:iJ R)(yi:Nat):List cb->af->Option aA->(af->Option aA->R)->R
 |[],st,p,K=>K st p
 |⟨none,i⟩::l,st,p,K=>mf A gl Y yi i st p λst p=>hP Y yi l st p K
 |⟨some (s,want),i⟩::l,st,p,K=>match st.aP s with
  |.d (.bool b)=>cond (cond want b (!b)) (mf A gl Y yi i st p λst p=>hP Y yi l st p K) (hP Y yi l (st.dA i.dst (.tuple [])) p K)
  |.tuple []=>hP Y yi l (st.dA i.dst (.tuple [])) p K
  |_=>A.fail
def hc(Y:iJ R)(yi:Nat):eG->af->Option aA->(aA->af->Option aA->R)->R
 |.skip,st,p,K=>K .normal st p
 |.ops l,st,p,K=>hP A gl Y yi l st p (K .normal)
 |.any l dz,st,p,K=>qa A gl l dz st λst=>K .normal st p
 |.bad,_,_,_=>A.fail
 |.seq a b,st,p,K=>hc Y yi a st p λx st p=>match x with
  |.normal=>hc Y yi b st p K
  |x=>K x st p
 |.cond c a b,st,p,K=>match aK gl st c with
  |.d (.bool t)=>cond t (hc Y yi a st p K) (hc Y yi b st p K)
  |_=>A.fail
 |.block i b,st,p,K=>hc Y yi b st p λx st p=>match x with
  |.exit j=>cond (Nat.beq j i) (K .normal st p) (K (.exit j) st p)
  |x=>K x st p
 |.loop ts bs b,st,p,K=>A.guard p.isNone <| forget A st.s.length ts bs st λst0=>
  A.fix (λcL rec=>hc Y yi b cL none λx st p=>match x with
   |.normal=>A.guard p.isNone (forget A cL.s.length ts bs st rec)
   |x=>K x st p) st0
 |.h4 _ _ _ _,_,_,_=>A.fail
 |.exit i,st,p,K=>K (.exit i) st p
 |.ret,st,p,K=>K .ret st p
def q8(mg h4:af->(aA->af->R)->R)(ps:List Nat)(st0:af):iJ R:=λvs s ik=>
 A.guard (Nat.beq vs.length ps.length) <| mg {st0 with aP:=x2 st0.aP ps vs,s:=s} λe cL=>match e with
  |.normal=>h4 cL λe aN=>match e with
   |.normal=>ik none aN.s
   |e=>ik (some e) aN.s
  |_=>A.fail
def o2(mg h4:af->(aA->af->R)->R)(ps:List Nat)(g:Nat)(gD:List ag)(st:af)(K:aA->af->R):R:=
 A.iter g λcO=>A.guard cO.res.isEmpty <|
  hc A gl (q8 A mg h4 ps st.la) st.s.length cO.code {aP:=q7 (.fT st.s.length::gD) 0,bI:=λ_=>none,s:=st.s++[.dead]} none λe Av p=>match e with
   |.exit _=>A.fail
   |_=>K (p.getD .normal) {st.la with s:=Av.s}
def run:eG->af->(aA->af->R)->R
 |.skip,st,K=>K .normal st
 |.ops l,st,K=>steps A gl l st (K .normal)
 |.any l dz,st,K=>qa A gl l dz st (K .normal)
 |.bad,_,_=>A.fail
 |.seq a b,st,K=>run a st λx st=>match x with
  |.normal=>run b st K
  |x=>K x st
 |.cond c a b,st,K=>match aK gl st c with
  |.d (.bool t)=>cond t (run a st K) (run b st K)
  |_=>A.fail
 |.block i b,st,K=>run b st λx st=>match x with
  |.exit j=>cond (Nat.beq j i) (K .normal st) (K (.exit j) st)
  |x=>K x st
 |.loop ts bs b,st,K=>forget A st.s.length ts bs st λst0=>
  A.fix (λcL rec=>run b cL λx st=>match x with
   |.normal=>forget A cL.s.length ts bs st rec
   |x=>K x st) st0
 |.h4 x ps a b,st,K=>match aK gl st x with
  |.func g [] gD=>o2 A gl (run a) (run b) ps g gD st K
  |.d (.fn g)=>o2 A gl (run a) (run b) ps g [] st K
  |_=>A.fail
 |.exit i,st,K=>K (.exit i) st
 |.ret,st,K=>K .ret st
def vR(st:af):n9->Option ag
 |.t t=>some (cE (st.aP t))
 |.o t=>some (st.aP t)
 |.b t n ah=>match st.aP t with
  |.dT ek 0=>match st.bI ek with
   |some cs=>cond (Nat.ble n cs.length) (some (valOf cs 0 n ah)) none
   |none=>none
  |_=>none
 |.h t n ah=>match st.aP t with
  |.ptr i off=>match st.s.getD i .dead with
   |.box cs=>cond (Nat.ble (off+n) cs.length) (some (valOf cs off n ah)) none
   |_=>none
  |_=>none
def ui(st:af):List n9->Option (List ag)
 |[]=>some []
 |r::l=>match vR st r,ui st l with
  |some v,some vs=>some (cE v::vs)
  |_,_=>none
def qb(st:af):List n9->Option ag
 |[r]=>vR st r
 |l=>(ui st l).map .tuple
def lH(fn:aX)(args:List ag)(s:aV)(K:ag->aV->R):R:=
 run A gl fn.code {aP:=q7 args 0,bI:=λ_=>none,s} λx st=>match x with
  |.exit _=>A.fail
  |_=>match qb st fn.res with
   |some r=>A.guard (dU depth r) (K r (gc s.length r st.s))
   |none=>A.fail
end
structure eo where
 take:List Nat:=[]
 heap:List Nat:=[]
 live:List (List Nat×List Nat):=[]
 pure:List Nat:=[]
 own:Bool:=false
 objs:List Nat:=[]
 hM:List Nat:=[]
 uj:List Nat:=[]
 Dr:List Nat:=[]
 q9:List Nat:=[]
 uk:List Nat:=[]
 deriving Inhabited,Repr
section
variable (P:Program)
def dp(t:Nat):Option Nat:=(P.info? t).map (·.size)
def bytesOf(t:Nat):Option Nat:=(P.info? t).map (·.bytes)
def kf(t:Nat):Option Bool:=match P.underlying t with
 |some (.struct _)=>some true
 |some (.array _ _)=>some true
 |some _=>some false
 |none=>none
def um:Value->ag->Bool
 |.bool a,.d (.bool b)=>a==b
 |.int k n,.d (.int k' n')=>decide (k=k')&&decide (n=n')
 |.string s,.d (.str l)=>decide (s.data.toList=l)
 |.pointer none,.d .dO=>true
 |.map none,.d .hj=>true
 |.nilFunc,.d .k5=>true
 |.nilIface,.d .ig=>true
 |.slice _ 0 0,.own _ []=>true
 |.func (.func f) a c,.d (.fn g)=>decide (f=g)&&a.isEmpty&&c.isEmpty
 |_,_=>false
def Ds:Value->ag->Bool
 |.agg vs,.agg cs=>decide (vs.size=cs.length)&&(vs.toList.zip cs).all λp=>um p.1 p.2
 |.tuple vs,.tuple []=>vs.isEmpty
 |v,x=>um v x
def od:Nat->Nat->Option (List ag)
 |0,_=>none
 |n+1,t=>match P.underlying t with
  |some .bool=>some [.d (.bool false)]
  |some (.int k)=>some [.d (.int k 0)]
  |some .string=>some [.d (.str [])]
  |some (.slice e)=>(dp P e).map λs=>[.own s []]
  |some (.pointer _)=>some [.d .dO]
  |some (.map _ _)=>some [.d .hj]
  |some (.func _ _ _)=>some [.d .k5]
  |some (.interface _)=>some [.d .ig]
  |some (.struct fs)=>(fs.toList.mapM λf=>od n f.type).map List.flatten
  |some (.array k e)=>(od n e).map λz=>(List.replicate k z).flatten
  |_=>none
def zeros(t:Nat):Option (List ag):=do
 let cs <-od P 20 t;let i <-P.info? t;let z <-i.zero;if decide (z.cells.size=cs.length)&&decide (i.size=cs.length)&&(z.cells.toList.zip cs).all (λp=>um p.1 p.2)then some cs else none
def adg(t:Nat)(v:Value):Option ag:=
 match v with
 |.bool b=>some (.d (.bool b))
 |.int k n=>some (.d (.int k n))
 |.string s=>some (.d (.str s.data.toList))
 |.pointer none=>some (.d .dO)
 |.map none=>some (.d .hj)
 |.nilFunc=>some (.d .k5)
 |.nilIface=>some (.d .ig)
 |.slice _ 0 0=>match P.underlying t with
  |some (.slice e)=>(dp P e).map λs=>.own s []
  |_=>some (.own 1 [])
 |.agg _=>(zeros P t).map .agg
 |.tuple vs=>if vs.isEmpty then some (.tuple [])else none
 |_=>none
def G5(t:Nat)(v:Value):Option ag:=
 match adg P t v with
 |some x=>if Ds v x then some x else none
 |none=>none
def M8(ah:Bool)(zs:List ag):ag:=if ah then .agg zs else zs.getD 0 .undef
def zeroV(t:Nat):Option ag:=
 match zeros P t,kf P t,(P.info? t).bind (·.zero)with
 |some zs,some ah,some v=>
  if Ds v (M8 ah zs)then some (M8 ah zs)else none
 |_,_,_=>none
def bP(t:Nat):Operand->Option O
 |.tmp n=>some (.t n)
 |.const v=>(G5 P t v).map .c
 |.global g=>some (.g g)
 |.func f=>some (.c (.d (.fn f)))
def nE(t:Nat):Option Operand->Option (Option O)
 |none=>some none
 |some x=>(bP P t x).map some
def sE(k:Nat->Option (List Nat)):List Field->Nat->Option (List Nat)
 |[],_=>some []
 |f::fs,off=>if f.name≠ "_" /\f.offset=off then match k f.type with
   |some a=>match sE k fs (off+a.length)with
    |some b=>if dp P f.type=some a.length then some (a++b)else none
    |none=>none
   |none=>none
  else none
def kinds:Nat->Nat->Option (List Nat)
 |0,_=>none
 |n+1,t=>match P.underlying t with
  |some .bool=>some [0]
  |some (.int _)=>some [1]
  |some .string=>some [2]
  |some (.struct fs)=>if P.stoodInHeld t=false then sE P (kinds n) fs.toList 0 else none
  |_=>none
def hd(t:Nat):Bool:=match P.underlying t with
 |some (.struct _)=>true
 |_=>false
def partOf(t i:Nat):Option (Nat×Nat):=match P.underlying t with
 |some (.struct fs)=>match fs[i]? with
  |some f=>(dp P f.type).map λs=>(f.offset,s)
  |none=>none
 |some (.array _ e)=>(dp P e).map λs=>(i*s,s)
 |_=>none
def adh(t i:Nat):Nat:=match P.underlying t with
 |some (.struct fs)=>((fs[i]?).map (·.type)).getD 0
 |some (.array _ e)=>e
 |_=>0
def vS(t:Nat):Option Nat:=match P.underlying t with
 |some (.slice e)=>some e
 |_=>none
abbrev fl:=List (Nat×Nat×Nat)
def fl.look(m:fl)(s:Nat):Option (Nat×Nat):=match m with
 |[]=>none
 |(k,v)::l=>cond (Nat.beq k s) (some v) (fl.look l s)
def Dt:Option Operand->Bool
 |some (.const (.int _ n))=>decide (n=0)
 |_=>false
def x3:TypeDesc->Operand->Option Nat
 |.slice _,.const (.slice none 0 0)=>some 0
 |.map _ _,.const (.map none)=>some 1
 |.func _ _ _,.const .nilFunc=>some 2
 |.pointer _,.const (.pointer none)=>some 3
 |.interface _,.const .nilIface=>some 4
 |_,_=>none
def G6(g:Nat):Option Nat:=match P.funcs[g]? with
 |some fn=>if fn.body.isNone&&fn.name== "internal/bytealg.abigen_runtime_cmpstring" &&fn.origin== "" then some 0 else none
 |none=>none
def G7:Operand->Operand->Bool
 |.tmp x,.tmp y=>Nat.beq x y
 |_,_=>false
def x4(d t:Nat):Option I:=match P.underlying t,(P.info? t).bind (·.zero)with
 |some (.struct fs),some (.agg ⟨[.pointer none,.slice none 0 0]⟩)=>match fs.toList with
  |[_,f]=>match P.underlying f.type with
   |some (.slice e)=>match P.underlying e with
    |some (.int .u8)=>some (.ak d t e)
    |_=>none
   |_=>none
  |_=>none
 |_,_=>none
def jc(an:eo)(m:fl)(o:Oper):Option I:=do
 match o.op,o.dst with
 |.move x,some d=>
  if dk d an.take then match x with
   |.tmp s=>some (.hb d s)
   |_=>none
  else(bP P o.type x).map λy=>if dk d an.q9 then .oW d y else .cS d y
 |.assign x,some d=>(bP P o.type x).map λy=>if dk d an.uj then .mS d false y else if dk d an.Dr then .mS d true y else .eZ d y
 |.pick c a b,some d=>do some (.ei d (<-bP P 0 c) (<-bP P o.type a) (<-bP P o.type b))
 |.alloc e,some d=>do
  let z <-zeros P e;if dk d an.hM then x4 P d e else
  some (if dk d an.heap then .br d z else .kE d z)
 |.box e x,some d=>do
  let n <-dp P e;let x <-bP P e x;some (if dk d an.heap then .aq d x n else .fO d x n)
 |.build t ps,some d=>do
  let z <-zeros P t;let ps <-ps.toList.mapM λ(i,x)=>do
   let (off,n) <-partOf P t i;some (off,n,<-bP P (adh P t i) x)
  if (P.underlying t).any (·.isRow)then some (.vJ d z ps)else none
 |.buildSlice t len ps,some d=>do
  let e <-vS P t;let n <-dp P e;let _ <-zeros P e;if decide (ps.toList.map (·.1)=List.range len)&&decide (len*n<=2^24)&&decide (0<n)then
   let xs <-ps.toList.mapM λ(_,x)=>bP P e x;some (if dk d an.objs then .q4 d n xs else .li d n xs)
  else none
 |.load t a,some d=>do
  let n <-dp P t;let ah <-kf P t;let x <-bP P 0 a;let at_:Option (Nat×Nat):=match a with|.tmp s=>m.look s|_=>none
  if ah||decide (n=1)then
   match dk d an.take&&!ah,at_ with
   |false,some (b,off)=>some (.hN d x b off n ah)
   |false,none=>some (if ah&&dk d an.uj then .aQ d x n else .aH d x n ah)
   |true,some (b,off)=>some (.lt d x b off)
   |true,none=>some (.aC d x)
  else none
 |.store t a x,none=>do
  let n <-dp P t;let y <-bP P 0 a;let z <-bP P t x;match a with
  |.tmp s=>match m.look s with
   |some (b,off)=>some (.ls y b off z n)
   |none=>some (.hs y z n)
  |_=>none
 |.nilCheck x,some d=>(bP P 0 x).map (.vK d)
 |.binOp op t x y u,some d=>do
  let a <-bP P t x;let b <-bP P u y;match P.underlying t,op with
  |some .bool,.eql=>some (.eq d false false [0] a b)
  |some .bool,.neq=>some (.eq d true false [0] a b)
  |some (.struct _),.eql=>if P.eqGuardType P.depth t=false then(kinds P 10 t).map λks=>.eq d false true ks a b else none
  |some (.struct _),.neq=>if P.eqGuardType P.depth t=false then(kinds P 10 t).map λks=>.eq d true true ks a b else none
  |some (.int _),_=>some (.bi d op a b)
  |some .string,_=>some (.bi d op a b)
  |some u,.eql=>(x3 u y).map λk=>.mb d false k a
  |some u,.neq=>(x3 u y).map λk=>.mb d true k a
  |_,_=>none
 |.unOp op _ x,some d=>(bP P 0 x).map (.un d op)
 |.convert src dst x,some d=>do
  let a <-bP P src x;match P.underlying src,P.underlying dst with
  |some (.int _),some (.int k)=>some (.ci d k a)
  |some .string,some .string=>some (.cs d a)
  |some .string,some (.slice e)=>match P.underlying e with
   |some (.int .u8)=>if dp P e=some 1 then some (.h3 d a)else none
   |_=>none
  |some (.slice e),some .string=>match P.underlying e with
   |some (.int .u8)=>if dp P e=some 1 then some (.bs d a)else none
   |_=>none
  |_,_=>none
 |.makeFunc (.func f) first gD,some d=>do
  some (.vL d f (<-first.toList.mapM (bP P 0)) (<-gD.toList.mapM (bP P 0)))
 |.makeMap _ none,some d=>some (.mm d)
 |.slice t x lo hi mx,some d=>do
  let a <-bP P t x;match P.underlying t with
  |some .string=>if mx.isNone then some (.ss d a (<-nE P 0 lo) (<-nE P 0 hi))else none
  |some (.slice e)=>do
   let n <-dp P e;if lo.isNone&&Dt hi&&Dt mx then some (.em d a)
   else if dk d an.Dr then(match x,lo,hi,mx with
    |.tmp s,some lo,none,none=>if decide (s≠d)then(bP P 0 lo).map (.so d s n)else none
    |_,_,_,_=>none)
   else if hi.isNone&&mx.isSome then none
   else some (.aS d n a (<-nE P 0 lo) (<-nE P 0 hi) (<-nE P 0 mx))
  |_=>none
 |.fieldAddr t x f,some d=>match P.underlying t with
  |some (.struct fs)=>match fs[f]? with
   |some f=>if (dp P f.type).any (λn=>decide (0<n))then(bP P 0 x).map λx=>.gF d x f.offset else none
   |none=>none
  |_=>none
 |.field t x f,some d=>match P.underlying t with
  |some (.struct fs)=>match fs[f]? with
   |some f=>do
    let n <-dp P f.type;let ah <-kf P f.type;let a <-bP P 0 x;if ah||decide (n=1)then some (.fd d a f.offset n ah)else none
   |none=>none
  |_=>none
 |.indexAddr t x i,some d=>do
  let a <-bP P t x;let j <-bP P 0 i;match P.underlying t with
  |some (.slice e)=>do
   let n <-dp P e;if decide (0<n)then some (.lF d a j n)else none
  |some (.array len e)=>do
   let n <-dp P e;if decide (0<n)then some (.aa d a j len n)else none
  |_=>none
 |.index t x i,some d=>do
  let a <-bP P t x;let j <-bP P 0 i;match P.underlying t with
  |some .string=>some (.ma d a j)
  |some (.array len e)=>do
   let n <-dp P e;let ah <-kf P e;if ah||decide (n=1)then some (.vM d a j len n ah)else none
  |_=>none
 |.makeSlice t l c,some d=>do
  let e <-vS P t;let z <-zeros P e;let n <-dp P e;let b <-bytesOf P e;if G7 l c&&decide (0<n)&&decide (0<b)then some (.mk d n z (<-bP P 0 l) (1099511627776/b))else none
 |.lookup t x k ok,some d=>do
  let a <-bP P t x;match P.underlying t with
  |some (.map e5 lI)=>do
   let b <-bP P e5 k;let ec <-zeroV P lI;let ks <-kinds P 10 e5;some (.aI d (hd P e5) ks a b ec ok)
  |_=>none
 |.mapUpdate t x k v,none=>do
  let a <-bP P t x;match P.underlying t with
  |some (.map e5 lI)=>do
   let ks <-kinds P 10 e5;some (.n7 (hd P e5) ks a (<-bP P e5 k) (<-bP P lI v))
  |_=>none
 |.range t x,some d=>match P.underlying t with
  |some (.map _ _)=>(bP P t x).map (.rg d)
  |_=>none
 |.next x false,some d=>(bP P 0 x).map (.k7 d)
 |.extract x i,some d=>(bP P 0 x).map λx=>.ex d x i
 |.call c,d=>match c.callee with
  |.value f=>do
   let fj <-(c.args.toList.zipIdx).mapM λ(x,i)=>bP P (c.argTypes.getD i 0) x;match f with
   |.func g=>match G6 P g,fj,d with
    |some k,[x,y],some d=>some (.b7 d k x y)
    |_,fj,d=>if dk g an.pure then some (.p3 d g fj)else some (.dH d (.c (.d (.fn g))) fj)
   |_=>some (.dH d (<-bP P 0 f) fj)
  |.builtin .len=>match c.args.toList,c.argTypes.toList,d with
   |[x],[t],some d=>match P.underlying t with
    |some .string=>(bP P t x).map (.mP d true)
    |some (.slice _)=>(bP P t x).map (.mP d false)
    |_=>none
   |_,_,_=>none
  |.builtin .append=>match c.args.toList,c.argTypes.toList,d with
   |[.tmp s,x],[t,u],some d=>do
    let e <-vS P t;let n <-dp P e;let b <-bytesOf P e;let _ <-zeros P e;let adi:Bool:=match P.underlying u with
     |some (.slice _)|some .string=>true
     |_=>false
    let y <-bP P u x;if adi&&decide (0<n)&&decide (0<b)then some (if dk d an.objs then .mQ d s y n (140737488355328/b)else if dk d an.uk then .mR d s y n (140737488355328/b)else .ap d s y n (140737488355328/b))else none
   |_,_,_=>none
  |.builtin .clear=>match c.args.toList,c.argTypes.toList with
   |[x],[t]=>match P.underlying t with
    |some (.slice e)=>do
     let z <-zeros P e;some (.n8 d (<-bP P t x) z)
    |_=>none
   |_,_=>none
  |.builtin .max=>match c.args.toList,d with
   |[x,y],some d=>do some (.p2 d false (<-bP P o.type x) (<-bP P o.type y))
   |_,_=>none
  |.builtin .min=>match c.args.toList,d with
   |[x,y],some d=>do some (.p2 d true (<-bP P o.type x) (<-bP P o.type y))
   |_,_=>none
  |_=>none
 |_,_=>none
def uo(m:fl)(o:Oper):fl:=match o.op,o.dst with
 |.fieldAddr t (.tmp s) f,some d=>match m.look s,partOf P t f with
  |some (b,off),some (o,_)=>(d,b,off+o)::m
  |_,_=>m
 |_,_=>m
def o3(ops:Array Oper)(o:Oper):Option (Option (Nat×Bool)):=match o.guard with
 |none=>some none
 |some (j,w)=>match (ops[j]?).bind (·.dst)with
  |some s=>some (some (s,w))
  |none=>none
def kg(nt:Nat)(o:Oper):Bool:=match o.dst with
 |some d=>Nat.blt d nt
 |none=>true
def Aw(an:eo)(cY cU eH:Oper):Option (Nat×I×Nat):=match cY.op,cY.dst,cU.op,cU.dst,eH.op,eH.dst with
 |.call c,some d,.indexAddr t2 (.tmp d2) (.tmp i),some aD,.store t3 (.tmp aW) x,none=>match c.callee,c.args.toList,c.argTypes.toList with
  |.builtin .append,[.tmp s,.tmp z],[t,u]=>do
   let e <-vS P t;let e' <-vS P u;let n <-dp P e;let b <-bytesOf P e;let _ <-zeros P e;let y <-bP P t3 x;if decide (t2=t)&&decide (e'=e)&&decide (t3=e)&&decide (d2=d)&&decide (aW=aD)&&decide (d≠i)&&decide (aD≠d)&&!dk aD y.slots&&!dk d y.slots&&!dk aD [s,z,i]&&!dk d an.objs&&decide (1<n)&&decide (0<b)&&cY.guard.isNone&&cU.guard.isNone&&eH.guard.isNone then
    some (d,.kF d s z i y n (140737488355328/b),aD)
   else none
  |_,_,_=>none
 |_,_,_,_,_,_=>none
def vT(an:eo)(nt:Nat)(all:Array Oper)(m:fl)(o:Oper):Option cb:=
 match (match jc P an m o with|some i=>some i|none=>some (.bad o.dst)),o3 all o with
 |some i,some g=>if kg nt o&&decide (i.dst=o.dst)then some ⟨g,i⟩else none
 |_,_=>none
def hB(an:eo)(nt:Nat)(all:Array Oper):fl->List Oper->Option (List cb)
 |_,[]=>some []
 |m,cY::cU::eH::l=>match Aw P an cY cU eH with
  |some (d,i,e)=>if Nat.blt d nt&&Nat.blt e nt then match hB an nt all m l with
    |some is=>some (⟨none,i⟩::⟨none,.lG (some e)⟩::⟨none,.lG none⟩::is)
    |none=>none
   else none
  |none=>match vT P an nt all m cY,hB an nt all (uo P m cY) (cU::eH::l)with
   |some g,some is=>some (g::is)
   |_,_=>none
 |m,o::l=>match vT P an nt all m o,hB an nt all (uo P m o) l with
  |some g,some is=>some (g::is)
  |_,_=>none
def boxes(an:eo):Code->fl
 |.region _ ops _=>ops.toList.filterMap λo=>match o.op,o.dst with
  |.alloc _,some d|.box _ _,some d=>if dk d an.heap then none else some (d,d,0)
  |_,_=>none
 |.seq a b=>boxes an a++boxes an b
 |.cond _ a b=>boxes an a++boxes an b
 |.block _ b=>boxes an b
 |.loop b=>boxes an b
 |_=>[]
def kJ(ops:Array Oper)(i:Nat):Nat->Nat->Bool
 |0,_=>false
 |n+1,j=>match ops[j]? with
  |some o=>o.after.toList.any λe=>Region.binds .any e&&(Nat.beq e.on i||kJ ops i n e.on)
  |none=>false
def uq(ops:Array Oper):Bool:=(List.range ops.size).all λj=>match ops[j]? with
 |some o=>o.after.toList.all λe=>!Region.binds .any e||Nat.blt e.on j
 |none=>true
def ra:I->Bool
 |.aQ .. |.mS .. |.so .. |.oW .. =>true
 |.mb _ _ k _=>Nat.beq k 0
 |_=>false
def oe:I->Bool
 |.kF .. =>true
 |_=>false
def rb(is:List cb):Option Nat:=is.findIdx? λg=>oe g.i
def Du(e:Nat)(bar:List Nat)(o:Oper)(g:cb):Bool:=o.guard.isNone&&!dk e g.rd&&(match o.dst with|some d=>!dk d bar|none=>true)&&(match o.op with
 |.fieldAddr _ (.tmp _) _=>true
 |.store _ (.tmp _) _=>true
 |_=>false)
def Dv(ops:Array Oper)(is:List cb)(k:Nat):Bool:=match is[k]? with
 |some ⟨_,.kF d s z i x _ _⟩=>match is[k+1]? with
  |some ⟨_,.lG (some e)⟩=>
   ((List.range k).all λj=>kJ ops j ops.size k)&&
   ((List.range ops.size).all λj=>Nat.ble j k||kJ ops k ops.size j)&&kJ ops (k+1) ops.size (k+2)&&
   ((List.range ops.size).all λj=>Nat.blt j (k+3)||(match ops[j]?,is[j]? with
    |some o,some g=>Du e (e::d::s::z::i::x.slots) o g
    |_,_=>false))
  |_=>false
 |_=>false
def x5(t:Option Nat)(i j:Nat):Bool:=match t with
 |some k=>(Nat.beq i (k+1)||Nat.beq i (k+2))&&Nat.blt (k+2) j
 |none=>false
def G8(ops:Array Oper)(is:List cb)(i j:Nat):Option Bool:=match is[i]?,is[j]? with
 |some x,some y=>if kJ ops i ops.size j||x5 (rb is) i j then some false else if xZ x y then some (!Dl x y)else none
 |_,_=>none
def Ax(ops:Array Oper)(is:List cb)(j:Nat):Nat->Option (List Nat)
 |0=>some []
 |i+1=>match Ax ops is j i,G8 ops is i j with
  |some l,some b=>some (cond b (i::l) l)
  |_,_=>none
def Ay(ops:Array Oper)(is:List cb):Nat->Option (List (List Nat))
 |0=>some []
 |j+1=>match Ay ops is j,Ax ops is j j with
  |some l,some c=>some (l++[c])
  |_,_=>none
def M9(ops:Array Oper)(is:List cb):Option (List (List Nat)):=
 if P.follows .mixedOrders&&uq ops&&is.all (λg=>!ra g.i)&&(match rb is with|some k=>Dv ops is k|none=>true)then Ay ops is ops.size else none
def Az(ops:Array Oper):Bool:=
 decide (ops.size=4)&&decide (Region.ready .any ops #[false,false,false,false]=[0])&&decide (Region.ready .any ops #[true,false,false,false]=[1,2])&&
 decide (Region.ready .any ops #[true,true,false,false]=[2])&&decide (Region.ready .any ops #[true,false,true,false]=[1])&&
 decide (Region.ready .any ops #[true,true,true,false]=[3])&&decide (Region.ready .any ops #[true,true,true,true]=[])
def G9(ops:Array Oper)(is:List cb):Option eG:=match is with
 |[⟨none,.kE d [.d (.bool z)]⟩,⟨none,.ls (.t d1) d2 0 (.c (.d (.bool bq))) 1⟩,⟨none,.ls (.t d3) d4 0 (.c (.d (.bool aR))) 1⟩,⟨none,.hN e (.t d5) d6 0 1 false⟩]=>
  if P.follows .mixedOrders&&Az ops&&decide (d1=d)&&decide (d2=d)&&decide (d3=d)&&decide (d4=d)&&decide (d5=d)&&decide (d6=d)&&decide (e≠d)then
   some (.seq (.any [⟨none,.mb e false 0 (.c (.own 1 []))⟩] [[]]) (.cond (.t e)
    (.ops [⟨none,.kE d [.d (.bool z)]⟩,⟨none,.ls (.t d) d 0 (.c (.d (.bool bq))) 1⟩,⟨none,.ls (.t d) d 0 (.c (.d (.bool aR))) 1⟩,⟨none,.hN e (.t d) d 0 1 false⟩])
    (.ops [⟨none,.kE d [.d (.bool z)]⟩,⟨none,.ls (.t d) d 0 (.c (.d (.bool aR))) 1⟩,⟨none,.ls (.t d) d 0 (.c (.d (.bool bq))) 1⟩,⟨none,.hN e (.t d) d 0 1 false⟩])))
  else none
 |_=>none
def kh:eG->Bool
 |.skip|.ops _|.exit _|.ret|.bad=>true
 |.seq a b=>kh a&&kh b
 |.cond _ a b=>kh a&&kh b
 |.block _ b=>kh b
 |_=>false
def dq(an:eo)(nt:Nat)(m:fl):Code->List (List Nat×List Nat)->Option (eG×List (List Nat×List Nat))
 |.skip,l=>some (.skip,l)
 |.region _ ops drawn,l=>match hB P an nt ops m ops.toList with
  |some is=>if drawn then(match M9 P ops is with|some dz=>some (.any is dz,l)|none=>match G9 P ops is with|some c=>some (c,l)|none=>some (.bad,l))else some (.ops is,l)
  |none=>none
 |.seq a b,l=>match dq an nt m a l with
  |some (x,l)=>match dq an nt m b l with
   |some (y,l)=>some (.seq x y,l)
   |none=>none
  |none=>none
 |.cond c a b,l=>match bP P 0 c,dq an nt m a l with
  |some o,some (x,l)=>match dq an nt m b l with
   |some (y,l)=>some (.cond o x y,l)
   |none=>none
  |_,_=>none
 |.block i b,l=>match dq an nt m b l with
  |some (x,l)=>some (.block i x,l)
  |none=>none
 |.loop b,(ts,bs)::l=>match dq an nt m b l with
  |some (x,l)=>some (.loop ts bs x,l)
  |none=>none
 |.rangeFunc f ps a b,l=>match bP P 0 f,dq an nt m a l,dq an nt m b l with
  |some x,some (jR,_),some (jS,_)=>if kh jR&&kh jS&&ps.toList.all (λp=>Nat.blt p nt)then some (.h4 x ps.toList jR jS,l)else none
  |_,_,_=>none
 |.exit i,l=>some (.exit i,l)
 |.ret,l=>some (.ret,l)
 |.refuse _,l=>some (.bad,l)
 |_,_=>none
def x6(an:eo):ResultVar->Option n9
 |.tmp t=>some (.t t)
 |.cell t ty=>do
  let n <-dp P ty;let ah <-kf P ty;if ah||decide (n=1)then some (if dk t an.heap then .h t n ah else .b t n ah)else none
def x7(an:eo)(l:List ResultVar):Option (List n9):=match an.own,l with
 |true,[.tmp t]=>some [.o t]
 |true,_=>none
 |false,l=>l.mapM (x6 P an)
def ur(an:eo)(fn:Func):Option aX:=do
 let c <-fn.body;let (x,_) <-dq P an fn.ntmps (boxes an c) c an.live;let r <-x7 P an fn.results.toList;some ⟨x,r⟩
end
def aBe:=@List.getElem?_take
def aAs:=@Nat.le_trans
def aAv:=@Nat.lt_or_ge
def az':=@Nat.lt_of_lt_of_le
theorem axu(h:p:=by simp_all):p:=h
theorem axv(h:p:=by grind):p:=h
theorem aym(h:p:=by simp[h.length]):p:=h
inductive hD{α β:Type}(R:α->β->Prop):List α->List β->Prop
 |nil:hD R [] []
 |cons {x:α} {y:β} {xs:List α} {ys:List β}:R x y->hD R xs ys->hD R (x::xs) (y::ys)
inductive Loc where
 |slot (t:Nat)|re (t j:Nat)|rf (t:Nat)|dx (i j:Nat)|obj (i:Nat)|res|foreign
 deriving DecidableEq
abbrev bJ:=Nat->Option (Loc×Nat)
def Ha(G:bJ)(b off:Nat):Prop:=∀L n,G b=some (L,n)->off<n
def Cell(w:World)(G:bJ)(b off:Nat)(v:Value):Prop:=w.cell? ⟨b,off,none⟩=some v/\Ha G b off/\v.oneCell'=true
def iK(w:World)(G:bJ)(b off:Nat)(vs:List Value):Prop:=∀j v,vs[j]?=some v->Cell w G b (off+j) v
def adj:Obj->Bool
 |.cells .. |.map .. =>true
 |_=>false
def x8(w:World)(G:bJ)(b:Nat)(o:Obj):Prop:=G b=none/\adj o=true/\w.heap[b]?=some o
def Dw(w:World)(G:bJ)(b:Nat)(ks vs:List Value):Prop:=
 ∃mes clock,x8 w G b (.map mes clock)/\mes.toList.map (·.key)=ks/\mes.toList.map (·.val)=vs
def sF(w:World)(b n:Nat):Prop:=∃(c:Array Value) (E:TypeId) (fz:Nat×Nat),w.heap[b]?=some (.cells c E fz)/\n<=c.size
def da(w:World)(G:bJ)(w':World)(G':bJ):Prop:=(∀b off v,Cell w G b off v->Cell w' G' b off v)/\(∀b o,x8 w G b o->x8 w' G' b o)/\∀b n,sF w b n->sF w' b n
abbrev x9(ks vs:List D):List (D×ag):=(ks.zip vs).map λe=>(e.1,.d e.2)
def Hb(kl vl ks vs:List D):Prop:=∀(ah:Bool) (lJ:List Nat) (k:D),
 (fu ah lJ k (x9 ks vs) 0=some none->fu ah lJ k (x9 kl vl) 0=some none)/\
 ∀j d,fu ah lJ k (x9 ks vs) 0=some (some j)->vs[j]?=some d->∃ki,fu ah lJ k (x9 kl vl) 0=some (some ki)/\vl[ki]?=some d
mutual
inductive Rd(w:World)(G:bJ):Value->D->Prop
 |bool (b:Bool):Rd w G (.bool b) (.bool b)
 |int (k:IntKind) (n:Int):Rd w G (.int k n) (.int k n)
 |str (s:ByteArray) (l:List UInt8):s.data.toList=l->Rd w G (.string s) (.str l)
 |dO:Rd w G (.pointer none) .dO
 |hj:Rd w G (.map none) .hj
 |k5:Rd w G .nilFunc .k5
 |ig:Rd w G .nilIface .ig
 |fn (f:Nat):Rd w G (.func (.func f) #[] #[]) (.fn f)
 |iface (t:Nat) (v:Value) (x:D):Rd w G v x->Rd w G (.iface t v) (.iface t x)
 |hL (t:Nat) (v:Value):Rd w G (.iface t v) .hL
 |k6 (b:Nat) (sG sH:List Value) (kl vl ks vs:List D):Dw w G b sG sH->cn w G sG kl->cn w G sH vl->Hb kl vl ks vs->Rd w G (.map (some b)) (.k6 ks vs)
 |agg (vs:List Value) (cs:List D):cn w G vs cs->Rd w G (.agg ⟨vs⟩) (.agg cs)
 |kK (a:Option Addr) (cap sz:Nat):Rd w G (.slice a 0 cap) (.list sz [])
 |list (b off n cap sz:Nat) (l:List D) (vs:List Value):n=l.length->n<=cap->(∀d,d∈l->d.cells.length=sz)->iK w G b off vs->cn w G vs (l.flatMap D.cells)->
   Rd w G (.slice (some ⟨b,off,none⟩) n cap) (.list sz l)
 |eY (b base off:Nat) (vs:List Value) (cs:List D):iK w G b base vs->cn w G vs cs->Rd w G (.pointer (some ⟨b,base+off,none⟩)) (.eY cs off)
inductive cn(w:World)(G:bJ):List Value->List D->Prop
 |nil:cn w G [] []
 |cons (v:Value) (x:D) (vs:List Value) (xs:List D):Rd w G v x->cn w G vs xs->cn w G (v::vs) (x::xs)
end
section
variable {w w':World}{G G':bJ}
theorem Dw.keep(au:da w G w' G'){b:Nat}{ks vs:List Value}(h:Dw w G b ks vs):Dw w' G' b ks vs:=by
 obtain⟨mes,clock,h1,h2⟩:=h;exact⟨mes,clock,au.2.1 _ _ h1,h2⟩
theorem iK.keep(au:da w G w' G'){b off:Nat}{vs:List Value}(h:iK w G b off vs):iK w' G' b off vs:=
 λj v hv=>au.1 _ _ _ (h j v hv)
mutual
theorem Rd.keep(au:da w G w' G'):∀{v:Value} {x:D},Rd w G v x->Rd w' G' v x
 |_,_,.bool b=>.bool b
 |_,_,.int k n=>.int k n
 |_,_,.str s l h=>.str s l h
 |_,_,.dO=>.dO
 |_,_,.hj=>.hj
 |_,_,.k5=>.k5
 |_,_,.ig=>.ig
 |_,_,.fn f=>.fn f
 |_,_,.iface t v x h=>.iface t v x (Rd.keep au h)
 |_,_,.hL t v=>.hL t v
 |_,_,.k6 b sG sH kl vl ks vs h1 h2 av aZ=>.k6 b sG sH kl vl ks vs (h1.keep au) (cn.keep au h2) (cn.keep au av) aZ
 |_,_,.agg vs cs h=>.agg vs cs (cn.keep au h)
 |_,_,.kK a cap sz=>.kK a cap sz
 |_,_,.list b off n cap sz l vs h1 h2 av aZ bW=>.list b off n cap sz l vs h1 h2 av (aZ.keep au) (cn.keep au bW)
 |_,_,.eY b base off vs cs h1 h2=>.eY b base off vs cs (h1.keep au) (cn.keep au h2)
theorem cn.keep(au:da w G w' G'):∀{vs:List Value} {xs:List D},cn w G vs xs->cn w' G' vs xs
 |_,_,.nil=>.nil
 |_,_,.cons v x vs xs h1 h2=>.cons v x vs xs (Rd.keep au h1) (cn.keep au h2)
end
theorem cn.length{vs:List Value}{xs:List D}(h:cn w G vs xs):vs.length=xs.length:=by
 induction vs generalizing xs with
 |nil=>cases h;rfl
 |cons v vs ih=>cases h with|cons _ _ _ _ _ h2=>grind
theorem cn.get{vs:List Value}{xs:List D}(h:cn w G vs xs):∀{j:Nat} {v:Value} {x:D},vs[j]?=some v->xs[j]?=some x->Rd w G v x:=by
 induction vs generalizing xs with
 |nil=>simp
 |cons a vs ih=>
  cases h with
  |cons _ y _ ys h1 h2=>
   grind
theorem cn.mk:∀{vs:List Value} {xs:List D},vs.length=xs.length->(∀(j:Nat) (v:Value) (x:D),vs[j]?=some v->xs[j]?=some x->Rd w G v x)->cn w G vs xs
 |[],[],_,_=>.nil
 |[],_::_,h,_=>axv
 |_::_,[],h,_=>axv
 |v::vs,x::xs,h,aw=>.cons v x vs xs (aw 0 v x rfl rfl) (cn.mk axu λj u y hu hy=>aw (j+1) u y axu axu)
theorem cn.append{vs us:List Value}{xs ys:List D}(h:cn w G vs xs)(h2:cn w G us ys):cn w G (vs++us) (xs++ys):=by
 induction vs generalizing xs with
 |nil=>cases h;simp_all
 |cons v vs ih=>cases h with|cons _ _ _ _ a b=>exact .cons _ _ _ _ a (ih b)
theorem cn.drop{vs:List Value}{xs:List D}(h:cn w G vs xs)(n:Nat):cn w G (vs.drop n) (xs.drop n):=
 .mk aym λj v x hv ak=>h.get (by simpa using hv) axu
theorem cn.take{vs:List Value}{xs:List D}(h:cn w G vs xs)(n:Nat):cn w G (vs.take n) (xs.take n):=
 .mk aym λj v x hv ak=>by
  rw[aBe]at hv ak;split at hv
  .rename_i aL;grind[get]
  simp_all
end
mutual
inductive dc(w:World)(G:bJ)(ρ:List Nat):Value->ag->Prop
 |undef (v:Value):dc w G ρ v .undef
 |d (v:Value) (x:D):Rd w G v x->dc w G ρ v (.d x)
 |nil (a:Option Addr) (sz:Nat):dc w G ρ (.slice a 0 0) (.own sz [])
 |ptr (i off b:Nat):ρ[i]?=some (b+1)->dc w G ρ (.pointer (some ⟨b,off,none⟩)) (.ptr i off)
 |map (i b:Nat):ρ[i]?=some (b+1)->dc w G ρ (.map (some b)) (.map i)
 |aS (i off len cap et sz b:Nat):ρ[i]?=some (b+1)->cap<=et->sF w b (off+et*sz)->dc w G ρ (.slice (some ⟨b,off,none⟩) len et) (.aS i off len cap sz)
 |func (f:Nat) (fj cs:List Value) (a c:List ag):cf w G ρ fj a->cf w G ρ cs c->dc w G ρ (.func (.func f) ⟨fj⟩ ⟨cs⟩) (.func f a c)
 |agg (vs:List Value) (cs:List ag):cf w G ρ vs cs->dc w G ρ (.agg ⟨vs⟩) (.agg cs)
 |tuple (vs:List Value) (cs:List ag):cf w G ρ vs cs->dc w G ρ (.tuple ⟨vs⟩) (.tuple cs)
 |fT (i l:Nat):ρ[i]?=some (l+1)->dc w G ρ (.func (.yield l) #[] #[]) (.fT i)
inductive cf(w:World)(G:bJ)(ρ:List Nat):List Value->List ag->Prop
 |nil:cf w G ρ [] []
 |cons (v:Value) (x:ag) (vs:List Value) (xs:List ag):dc w G ρ v x->cf w G ρ vs xs->cf w G ρ (v::vs) (x::xs)
end
section
variable {w w':World}{G G':bJ}{ρ ρ':List Nat}
mutual
theorem dc.keep(au:da w G w' G')(cM:∀i b:Nat,ρ[i]?=some (b+1)->ρ'[i]?=some (b+1)):∀{v:Value} {x:ag},dc w G ρ v x->dc w' G' ρ' v x
 |_,_,.undef v=>.undef v
 |_,_,.d v x h=>.d v x (h.keep au)
 |_,_,.nil a sz=>.nil a sz
 |_,_,.ptr i off b h=>.ptr i off b (cM _ _ h)
 |_,_,.map i b h=>.map i b (cM _ _ h)
 |_,_,.aS i off len cap et sz b h ay aQ=>.aS i off len cap et sz b (cM _ _ h) ay (au.2.2 _ _ aQ)
 |_,_,.func f fj cs a c h1 h2=>.func f fj cs a c (cf.keep au cM h1) (cf.keep au cM h2)
 |_,_,.agg vs cs h=>.agg vs cs (cf.keep au cM h)
 |_,_,.tuple vs cs h=>.tuple vs cs (cf.keep au cM h)
 |_,_,.fT i l h=>.fT i l (cM _ _ h)
theorem cf.keep(au:da w G w' G')(cM:∀i b:Nat,ρ[i]?=some (b+1)->ρ'[i]?=some (b+1)):∀{vs:List Value} {xs:List ag},cf w G ρ vs xs->cf w' G' ρ' vs xs
 |_,_,.nil=>.nil
 |_,_,.cons v x vs xs h1 h2=>.cons v x vs xs (dc.keep au cM h1) (cf.keep au cM h2)
end
theorem cf.length{vs:List Value}{xs:List ag}(h:cf w G ρ vs xs):vs.length=xs.length:=by
 induction vs generalizing xs with
 |nil=>cases h;rfl
 |cons v vs ih=>cases h with|cons _ _ _ _ _ h2=>grind
theorem cf.get{vs:List Value}{xs:List ag}(h:cf w G ρ vs xs):∀{j:Nat} {v:Value} {x:ag},vs[j]?=some v->xs[j]?=some x->dc w G ρ v x:=by
 induction vs generalizing xs with
 |nil=>simp
 |cons a vs ih=>
  cases h with
  |cons _ y _ ys h1 h2=>
   grind
theorem cf.mk:∀{vs:List Value} {xs:List ag},vs.length=xs.length->(∀(j:Nat) (v:Value) (x:ag),vs[j]?=some v->xs[j]?=some x->dc w G ρ v x)->cf w G ρ vs xs
 |[],[],_,_=>.nil
 |[],_::_,h,_=>axv
 |_::_,[],h,_=>axv
 |v::vs,x::xs,h,aw=>.cons v x vs xs (aw 0 v x rfl rfl) (cf.mk axu λj u y hu hy=>aw (j+1) u y axu axu)
theorem cf.append{vs us:List Value}{xs ys:List ag}(h:cf w G ρ vs xs)(h2:cf w G ρ us ys):cf w G ρ (vs++us) (xs++ys):=by
 induction vs generalizing xs with
 |nil=>cases h;simp_all
 |cons v vs ih=>cases h with|cons _ _ _ _ a b=>exact .cons _ _ _ _ a (ih b)
theorem cf.drop{vs:List Value}{xs:List ag}(h:cf w G ρ vs xs)(n:Nat):cf w G ρ (vs.drop n) (xs.drop n):=
 .mk aym λj v x hv ak=>h.get (by simpa using hv) axu
theorem cf.take{vs:List Value}{xs:List ag}(h:cf w G ρ vs xs)(n:Nat):cf w G ρ (vs.take n) (xs.take n):=
 .mk aym λj v x hv ak=>by
  rw[aBe]at hv ak;split at hv
  .rename_i aL;grind[get]
  simp_all
theorem cn.Dx{vs:List Value}{xs:List D}(h:cn w G vs xs):cf w G ρ vs (xs.map .d):=
 .mk aym λj v x hv ak=>by
  simp at ak;obtain⟨y,hy,rfl⟩:=ak;exact .d _ _ (h.get hv hy)
end
def lK(w:World)(G:bJ)(L:Loc)(v:Value)(sz:Nat)(l:List D):Prop:=
 ∃(b off cap:Nat) (c:Array Value) (E:TypeId) (fz:Nat×Nat) (vs:List Value),
  v=.slice (some ⟨b,off,none⟩) l.length cap/\l.length<=cap/\w.heap[b]?=some (.cells c E fz)/\(∀j,j<c.size->¬(fz.1<=j/\j<fz.2))/\
  off+cap*sz<=c.size/\0<sz/\G b=some (L,off+l.length*sz)/\(∀d,d∈l->d.cells.length=sz)/\iK w G b off vs/\cn w G vs (l.flatMap D.cells)
def o4(w:World)(G:bJ)(L:Loc)(v:Value)(sz n:Nat)(cs:List fb):Prop:=
 ∃(b cap:Nat) (c:Array Value) (E:TypeId) (fz:Nat×Nat) (vs:List Value),
  v=.slice (some ⟨b,0,none⟩) n cap/\n<=cap/\w.heap[b]?=some (.cells c E fz)/\(∀j,j<c.size->¬(fz.1<=j/\j<fz.2))/\
  cap*sz<=c.size/\0<sz/\G b=some (L,0)/\vs.length=n*sz/\(∀(j:Nat) (u:Value),vs[j]?=some u->c[j]?=some u/\u.oneCell'=true)/\cf w G [] vs (ju cs)
def dr(w:World)(G:bJ)(ρ:List Nat)(L:Loc)(v:Value):ag->Prop
 |.own sz (d::l)=>lK w G L v sz (d::l)
 |.gE sz=>lK w G L v sz []\/∃cx,v=.slice cx 0 0
 |.raw sz n cs=>o4 w G L v sz n cs
 |x=>dc w G ρ v x
def de(w:World)(G:bJ)(ρ:List Nat)(lam:Nat->Option Nat)(L:Loc)(v:Value):ag->Prop
 |.dT t off=>∃b,lam t=some b/\v=.pointer (some ⟨b,off,none⟩)
 |x=>dr w G ρ L v x
def dJ(w:World)(G:bJ)(ρ:List Nat)(b:Nat)(L:Loc)(LC:Nat->Loc)(cs:List ag):Prop:=
 ∃(c:Array Value) (E:TypeId) (fz:Nat×Nat),w.heap[b]?=some (.cells c E fz)/\(∀j,j<c.size->¬(fz.1<=j/\j<fz.2))/\G b=some (L,0)/\cs.length<=c.size/\
  ∀j v x,c[j]?=some v->cs[j]?=some x->dr w G ρ (LC j) v x
def kj(w:World)(G:bJ)(ρ:List Nat)(i b:Nat):b3->Prop
 |.box cs=>dJ w G ρ b (.obj i) (.dx i) cs
 |.map es=>∃mes clock,w.heap[b]?=some (.map mes clock)/\G b=some (.obj i,0)/\mes.size=es.length/\
   ∀(j:Nat) (e:MapEntry) (p:D×ag),mes[j]?=some e->es[j]?=some p->Rd w G e.key p.1/\dc w G ρ e.val p.2
 |.dead=>True
 |.hM t e bs=>∃p v:Value,w.heap[b]?=some (.cells #[p,v] t (0,0))/\G b=some (.obj i,0)/\(p=.pointer none\/p=.pointer (some ⟨b,0,none⟩))/\
   ((v=.slice none 0 0/\bs=[])\/∃(g cap:Nat) (c:Array Value) (fz:Nat×Nat),v=.slice (some ⟨g,0,none⟩) bs.length cap/\w.heap[g]?=some (.cells c e fz)/\G g=some (.dx i 1,0)/\fz.2<=bs.length/\bs.length<=cap/\cap<=maxLen/\c.size=cap/\
    c.toList.take bs.length=bs.map λx=>.int .u8 x.toNat)
 |.hZ m=>(∃(since last:Nat),w.heap[b]?=some (.mapIter none since #[] last)/\G b=some (.obj i,0)/\m=none)\/
   ∃(k aR since last:Nat),m=some k/\ρ[k]?=some (aR+1)/\w.heap[b]?=some (.mapIter (some aR) since #[] last)/\G b=some (.obj i,0)
def ho(w:World)(G:bJ)(ρ:List Nat)(s:aV):Prop:=
 ρ.length=s.length/\∀i b o,ρ[i]?=some (b+1)->s[i]?=some o->kj w G ρ i b o
def o5(gl:Nat->List D)(w:World)(G:bJ):Prop:=(∀g,Rd w G (.pointer (some ⟨g,0,none⟩)) (.eY (gl g) 0))/\∀g,(gl g).length=0\/∃c E fz,x8 w G g (.cells c E fz)/\c.size=(gl g).length
structure Good(w:World)(G:bJ)(w':World)(G':bJ):Prop where
 size:w.heap.size<=w'.heap.size
 il:∀b,b<w.heap.size->(G b=none\/∃n,G b=some (.foreign,n))->w'.heap[b]?=w.heap[b]?/\G' b=G b
 new:∀b n,w.heap.size<=b->G' b≠some (.foreign,n)
 old:∀b n,b<w.heap.size->G' b=some (.foreign,n)->G b=some (.foreign,n)
 keep:da w G w' G'
 os:w'.os=w.os
 out:w'.output=w.output
theorem da.refl(w:World)(G:bJ):da w G w G:=⟨λ_ _ _ h=>h,λ_ _ h=>h,λ_ _ h=>h⟩
theorem da.trans{w w' AA:World}{G G' AB:bJ}(h:da w G w' G')(cG:da w' G' AA AB):da w G AA AB:=⟨λ_ _ _ c=>cG.1 _ _ _ (h.1 _ _ _ c),λ_ _ c=>cG.2.1 _ _ (h.2.1 _ _ c),λ_ _ c=>cG.2.2 _ _ (h.2.2 _ _ c)⟩
theorem Good.trans{w w' AA:World}{G G' AB:bJ}(h:Good w G w' G')(cG:Good w' G' AA AB):Good w G AA AB where
 size:=aAs h.size cG.size
 il b aq dB:=by
  obtain⟨h1,h2⟩:=h.il b aq dB;grind[il]
 new b n aq dB:=by
  rcases aAv b w'.heap.size with aB|kk
  all_goals grind[new,old]
 old b n aq dB:=h.old b n aq (cG.old b n (az' aq h.size) dB)
 keep:=h.keep.trans cG.keep
 os:=cG.os.trans h.os
 out:=cG.out.trans h.out
structure bX(gl:Nat->List D)(w:World)(G:bJ)(ρ:List Nat)(lam:Nat->Option Nat)(tmps:Array Value)(st:af):Prop where
 aP:∀t,de w G ρ lam (.slot t) (tmps.getD t undef) (st.aP t)
 bI:∀t cs,st.bI t=some cs->∃b,lam t=some b/\dJ w G ρ b (.rf t) (.re t) cs
 nb:∀t,st.bI t=none->lam t=none
 ob:ho w G ρ st.s
 eI:o5 gl w G
 lt:∀b L n,G b=some (L,n)->b<w.heap.size
def aA6:=@Bool.eq_false_iff
def azJ:=@Option.some.injEq
def aBD:=@Nat.add_assoc
def aAy:=@Nat.zero_add
def aCi:=@List.zip_cons_cons
def aBt:=@List.all_cons
def azH:=@Bool.and_eq_true
def aAt:=@Option.map_eq_some_iff
def azZ:=@Ne.symm
theorem hQ{α:Type}(f:Nat->α)(k:Nat)(v:α):cW f k v k=v:=by simp[cW]
theorem mT{α:Type}(f:Nat->α){k j:Nat}(v:α)(h:j≠k):cW f k v j=f j:=by
 have:Nat.beq j k=false:=by simp_all[aA6]
 grind[cW]
theorem df{α:Type}(f:Nat->α)(k j:Nat)(v:α):cW f k v j=if j=k then v else f j:=by
 grind[hQ,mT]
def eV(L L':Loc)(w:World)(G:bJ)(w':World)(G':bJ):Prop:=∀b n,G b=some (L,n)->w'.heap[b]?=w.heap[b]?/\G' b=some (L',n)
section
variable {w w':World}{G G':bJ}{ρ ρ':List Nat}{lam:Nat->Option Nat}{L L':Loc}
theorem dr.ck{v:Value}{x:ag}(h:dc w G ρ v x):dr w G ρ L v x:=by
 cases h<;>first|exact .undef _|exact .d _ _ ‹_› |exact .nil _ _|exact .ptr _ _ _ ‹_› |exact .map _ _ ‹_› |exact .aS _ _ _ _ _ _ _ ‹_› ‹_› ‹_› |exact .func _ _ _ _ _ ‹_› ‹_› |exact .agg _ _ ‹_› |exact .tuple _ _ ‹_› |exact .fT _ _ ‹_›
def rh(w:World)(G:bJ)(L:Loc)(v:Value)(sz:Nat)(l:List D):Prop:=lK w G L v sz l\/(l=[]/\∃cx,v=.slice cx 0 0)
theorem dr.cases{v:Value}{x:ag}(h:dr w G ρ L v x):dc w G ρ v x\/(∃sz l,x=ij sz l/\rh w G L v sz l)\/∃sz n cs,x=.raw sz n cs/\o4 w G L v sz n cs:=by
 unfold dr at h;split at h
 .exact .inr (.inl ⟨_,_::_,rfl,.inl h⟩)
 .exact .inr (.inl ⟨_,[],rfl,h.imp id λh=>⟨rfl,h⟩⟩)
 all_goals grind
theorem dr.x'{v:Value}{sz:Nat}{l:List D}(h:rh w G L v sz l):dr w G ρ L v (ij sz l):=by
 cases l with
 |nil=>exact h.imp id λh=>h.2
 |cons _ _=>exact h.elim id λh=>axv
theorem dr.M'{v:Value}{sz:Nat}{l:List D}(h:lK w G L v sz l):dr w G ρ L v (ij sz l):=.x' (.inl h)
theorem Hc{x:ag}{sz:Nat}{l:List D}:cE x≠ij sz l:=by
 intro e;cases x<;>cases l<;>simp[cE,ij]at e<;>(grind)
theorem Hd{x:ag}{sz n:Nat}{cs:List fb}:cE x≠.raw sz n cs:=by
 intro e;cases x<;>simp[cE]at e<;>(grind)
theorem de.lb{v:Value}{x:ag}(h:dr w G ρ L v x):de w G ρ lam L v x:=by
 rcases h.cases with h|⟨sz,l,rfl,dV⟩|⟨sz,n,us,rfl,cX⟩
 .cases h<;>first|exact .undef _|exact .d _ _ ‹_› |exact .nil _ _|exact .ptr _ _ _ ‹_› |exact .map _ _ ‹_› |exact .aS _ _ _ _ _ _ _ ‹_› ‹_› ‹_› |exact .func _ _ _ _ _ ‹_› ‹_› |exact .agg _ _ ‹_› |exact .tuple _ _ ‹_› |exact .fT _ _ ‹_›
 .cases l<;>exact dr.x' (ρ:=ρ) dV
 .exact cX
theorem de.ck{v:Value}{x:ag}(h:dc w G ρ v x):de w G ρ lam L v x:=.lb (.ck h)
theorem de.cases{v:Value}{x:ag}(h:de w G ρ lam L v x):dr w G ρ L v x\/∃t off b,x=.dT t off/\lam t=some b/\v=.pointer (some ⟨b,off,none⟩):=by
 unfold de at h;grind
theorem lK.bR(au:da w G w' G')(hs:eV L L' w G w' G'){v:Value}{sz:Nat}{l:List D}(h:lK w G L v sz l):lK w' G' L' v sz l:=by
 obtain⟨b,off,cap,c,E,fz,vs,h1,h2,av,aZ,bW,dh,h6,h7,im,kL⟩:=h;obtain⟨aj,aD⟩:=hs _ _ h6;exact⟨b,off,cap,c,E,fz,vs,h1,h2,aj.trans av,aZ,bW,dh,aD,h7,im.keep au,kL.keep au⟩
theorem o4.bR(au:da w G w' G')(hs:eV L L' w G w' G'){v:Value}{sz n:Nat}{cs:List fb}(h:o4 w G L v sz n cs):o4 w' G' L' v sz n cs:=by
 obtain⟨b,cap,c,E,fz,vs,h1,h2,av,aZ,bW,dh,h6,h7,im,kL⟩:=h;obtain⟨aj,aD⟩:=hs _ _ h6;exact⟨b,cap,c,E,fz,vs,h1,h2,aj.trans av,aZ,bW,dh,aD,h7,im,kL.keep au (λ_ _ h=>h)⟩
theorem rh.bR(au:da w G w' G')(hs:eV L L' w G w' G'){v:Value}{sz:Nat}{l:List D}(h:rh w G L v sz l):rh w' G' L' v sz l:=h.imp (lK.bR au hs) id
theorem dr.bR(au:da w G w' G')(cM:∀i b:Nat,ρ[i]?=some (b+1)->ρ'[i]?=some (b+1))(hs:eV L L' w G w' G'){v:Value}{x:ag}(h:dr w G ρ L v x):dr w' G' ρ' L' v x:=by
 rcases h.cases with h|⟨sz,l,rfl,dV⟩|⟨sz,n,us,rfl,cX⟩
 .grind[ck,dc.keep]
 .grind[x',rh.bR]
 .exact o4.bR au hs cX
theorem de.bR(au:da w G w' G')(cM:∀i b:Nat,ρ[i]?=some (b+1)->ρ'[i]?=some (b+1)){lam':Nat->Option Nat}(aH:∀t b,lam t=some b->lam' t=some b)(hs:eV L L' w G w' G'){v:Value}{x:ag}(h:de w G ρ lam L v x):de w' G' ρ' lam' L' v x:=by
 rcases h.cases with h|⟨t,off,b,rfl,h1,h2⟩
 .grind[lb,dr.bR]
 .exact⟨b,aH _ _ h1,h2⟩
theorem dJ.bR(au:da w G w' G')(cM:∀i b:Nat,ρ[i]?=some (b+1)->ρ'[i]?=some (b+1)){LC Na:Nat->Loc}(hs:eV L L' w G w' G')(ay:∀j,eV (LC j) (Na j) w G w' G'){b:Nat}{cs:List ag}
  (h:dJ w G ρ b L LC cs):dJ w' G' ρ' b L' Na cs:=by
 obtain⟨c,E,fz,h1,h2,av,aZ,bW⟩:=h;obtain⟨aj,aD⟩:=hs _ _ av;exact⟨c,E,fz,aj.trans h1,h2,aD,aZ,λj v x hv ak=>(bW j v x hv ak).bR au cM (ay j)⟩
theorem kj.bR(au:da w G w' G')(cM:∀i b:Nat,ρ[i]?=some (b+1)->ρ'[i]?=some (b+1)){i:Nat}(hs:eV (.obj i) (.obj i) w G w' G')(ay:∀j,eV (.dx i j) (.dx i j) w G w' G'){b:Nat}{o:b3}
  (h:kj w G ρ i b o):kj w' G' ρ' i b o:=by
 cases o with
 |box cs=>exact dJ.bR au cM hs ay h
 |map es=>
  obtain⟨mes,clock,h1,h2,av,aZ⟩:=h;obtain⟨aj,aD⟩:=hs _ _ h2;exact⟨mes,clock,aj.trans h1,aD,av,λj e p he hp=>⟨(aZ j e p he hp).1.keep au,(aZ j e p he hp).2.keep au cM⟩⟩
 |dead=>trivial
 |hM t e bs=>
  obtain⟨p,v,h1,h2,av,aZ⟩:=h;obtain⟨aj,aD⟩:=hs _ _ h2;refine⟨p,v,aj.trans h1,aD,av,?_⟩;rcases aZ with aZ|⟨g,cap,c,fz,bh,a2,a3,a4⟩
  .simp_all
  .obtain⟨f1,f2⟩:=ay 1 _ _ a3;grind
 |hZ m=>
  rcases h with⟨since,last,h1,h2,av⟩|⟨k,aR,since,last,h1,h2,av,aZ⟩
  .obtain⟨aj,aD⟩:=hs _ _ h2;exact .inl ⟨since,last,aj.trans h1,aD,av⟩
  .obtain⟨aj,aD⟩:=hs _ _ aZ;exact .inr ⟨k,aR,since,last,h1,cM _ _ h2,aj.trans av,aD⟩
theorem ho.bR(au:da w G w' G'){s:aV}(hs:∀i,eV (.obj i) (.obj i) w G w' G')(ay:∀i j,eV (.dx i j) (.dx i j) w G w' G')(h:ho w G ρ s):ho w' G' ρ s:=
 ⟨h.1,λi b o aq bb=>(h.2 i b o aq bb).bR au (λ_ _ h=>h) (hs i) (ay i)⟩
theorem o5.bR{gl:Nat->List D}(au:da w G w' G')(h:o5 gl w G):o5 gl w' G':=⟨λg=>(h.1 g).keep au,λg=>(h.2 g).imp id λ⟨c,E,fz,h1,h2⟩=>⟨c,E,fz,au.2.1 _ _ h1,h2⟩⟩
theorem lK.rd{v:Value}{sz:Nat}{l:List D}(h:lK w G L v sz l):Rd w G v (.list sz l):=by
 obtain⟨b,off,cap,c,E,fz,vs,h1,h2,av,aZ,bW,dh,h6,h7,im,kL⟩:=h;subst h1;exact .list b off _ cap sz l vs rfl h2 h7 im kL
theorem rh.rd{v:Value}{sz:Nat}{l:List D}(h:rh w G L v sz l):Rd w G v (.list sz l):=by
 rcases h with h|⟨rfl,cx,rfl⟩
 .exact h.rd
 .exact .kK _ _ _
theorem dr.snap{v:Value}{x:ag}(h:dr w G ρ L v x):dc w G ρ v (snap x):=by
 rcases h.cases with h|⟨sz,l,rfl,dV⟩|⟨sz,n,us,rfl,cX⟩
 .cases h<;>first|exact .d _ _ (.kK _ _ _)|exact .undef _|exact .d _ _ ‹_› |exact .ptr _ _ _ ‹_› |exact .map _ _ ‹_› |exact .aS _ _ _ _ _ _ _ ‹_› ‹_› ‹_› |exact .func _ _ _ _ _ ‹_› ‹_› |exact .agg _ _ ‹_› |exact .tuple _ _ ‹_› |exact .fT _ _ ‹_›
 .cases l<;>exact .d _ _ dV.rd
 .exact .undef _
theorem de.snap{v:Value}{x:ag}(h:de w G ρ lam L v x):de w G ρ lam L' v (snap x):=by
 rcases h.cases with h|⟨t,off,b,rfl,h1,h2⟩
 .exact .ck h.snap
 .exact⟨b,h1,h2⟩
theorem adk{v:Value}{x:ag}{d:D}(h:dr w G ρ L v x)(bm:Am x=some d):Rd w G v d:=by
 have:=h.snap;cases x<;>simp[Am,azJ,reduceCtorEq]at bm
 .subst bm;cases this;omega
 .subst bm;cases this;omega
 .subst bm;cases this;omega
theorem ya{LC:Nat->Loc}:∀{vs:List Value} {xs:List ag} {ds:List D} {k:Nat},vs.length=xs.length->(∀j v x,vs[j]?=some v->xs[j]?=some x->dr w G ρ (LC (k+j)) v x)->jr xs=some ds->cn w G vs ds
 |[],[],ds,_,_,_,bm=>by simp[jr,azJ]at bm;subst bm;exact .nil
 |[],_::_,_,_,h,_,_=>axv
 |_::_,[],_,_,h,_,_=>axv
 |v::vs,x::xs,ds,k,h,aw,bm=>by
  simp[jr]at bm;cases ak:Am x with
  |none=>simp_all
  |some d=>
   cases hy:jr xs with
   |none=>simp_all
   |some l=>
    simp[ak,hy,azJ]at bm;subst bm;exact .cons _ _ _ _ (adk (aw 0 v x rfl rfl) ak) (ya (k:=k+1) axu (λj v x hv ak=>by
     have:=aw (j+1) v x axu axu;rwa [aBD,Nat.add_comm 1 j]) hy)
theorem Dy{LC:Nat->Loc}{vs:List Value}{xs:List ag}(aH:vs.length=xs.length)(aw:∀j v x,vs[j]?=some v->xs[j]?=some x->dr w G ρ (LC j) v x):dc w G ρ (.agg ⟨vs⟩) (cE (.agg xs)):=by
 simp[cE];cases bm:jr xs with
 |some ds=>exact .d _ _ (.agg _ _ (ya (k:=0) aH (λj v x hv ak=>by rw[aAy];exact aw j v x hv ak) bm))
 |none=>exact .agg _ _ (.mk axu λj v x hv ak=>by
   grind[dr.snap])
theorem dc.cE{v:Value}{x:ag}(h:dc w G ρ v x):dc w G ρ v (cE x):=by
 cases h with
 |agg vs cs h=>exact Dy (LC:=λ_=>.res) h.length λj v x hv ak=>.ck (h.get hv ak)
 |nil a sz=>exact .d _ _ (.kK _ _ _)
 |undef v=>exact .undef v
 |d v x h=>exact .d v x h
 |ptr _ _ _ h=>exact .ptr _ _ _ h
 |map _ _ h=>exact .map _ _ h
 |aS _ _ _ _ _ _ _ h ay aQ=>exact .aS _ _ _ _ _ _ _ h ay aQ
 |func _ _ _ _ _ h1 h2=>exact .func _ _ _ _ _ h1 h2
 |tuple _ _ h=>exact .tuple _ _ h
 |fT _ _ h=>exact .fT _ _ h
theorem dr.cE{v:Value}{x:ag}(h:dr w G ρ L v x):dc w G ρ v (cE x):=by
 rcases h.cases with h|⟨sz,l,rfl,dV⟩|⟨sz,n,us,rfl,cX⟩
 .exact h.cE
 .cases l<;>exact .d _ _ dV.rd
 .exact .undef _
theorem de.cE{v:Value}{x:ag}(h:de w G ρ lam L v x):de w G ρ lam L' v (cE x):=by
 rcases h.cases with h|⟨t,off,b,rfl,h1,h2⟩
 .exact .ck h.cE
 .exact⟨b,h1,h2⟩
theorem de.hl{v:Value}{x:ag}{d:D}(h:de w G ρ lam L v x)(a6:hl x=some d):Rd w G v d:=by
 have:=h.cE (L':=L);unfold aJ.hl at a6;split at a6
 .rename_i y hy;simp at a6;subst a6;rw[hy]at this;cases this;omega
 simp_all
theorem de.He{v:Value}{x:ag}{n:Nat}(h:de w G ρ lam L v x)(az:dU n x=true):dr w G ρ L v x:=by
 rcases h.cases with h|⟨t,off,b,rfl,h1,h2⟩
 all_goals grind[dU]
theorem Nb{v:Value}{x:ag}(h:um v x=true):dc w G ρ v x:=by
 unfold um at h;split at h<;>first
  |(simp at h;subst h;exact .d _ _ (.bool _))
  |(simp at h;obtain⟨rfl,rfl⟩:=h;exact .d _ _ (.int _ _))
  |(simp at h;exact .d _ _ (.str _ _ h))
  |exact .d _ _ .dO
  |exact .d _ _ .hj
  |exact .d _ _ .k5
  |exact .d _ _ .ig
  |exact .nil _ _
  |(simp at h;obtain⟨⟨rfl,rfl⟩,rfl⟩:=h;exact .d _ _ (.fn _))
  |grind
theorem Hf:∀{vs:List Value} {xs:List ag},vs.length=xs.length->(vs.zip xs).all (λp=>um p.1 p.2)=true->cf w G ρ vs xs
 |[],[],_,_=>.nil
 |[],_::_,h,_=>axv
 |_::_,[],h,_=>axv
 |v::vs,x::xs,h,aw=>by
  simp only[aCi,aBt,azH]at aw;exact .cons _ _ _ _ (Nb aw.1) (Hf axu aw.2)
theorem Hg{v:Value}{x:ag}(h:Ds v x=true):dc w G ρ v x:=by
 unfold Ds at h;split at h
 .rename_i vs cs;obtain⟨vs⟩:=vs;exact .agg _ _ (Hf axu axu)
 .rename_i vs;obtain⟨vs⟩:=vs;cases vs with
  |nil=>exact .tuple [] [] .nil
  |cons a b=>grind
 grind[Nb]
section
variable {P:Program}{gl:Nat->List D}{a:Act}{st:af}
theorem Nc{t:Nat}{x:Operand}{y:O}(ak:bP P t x=some y)(h:bX gl w G ρ lam a.tmps st):∃L,de w G ρ lam L (a.eval x) (aK gl st y)/\∀s,y=.t s->L=.slot s:=by
 cases x with
 |tmp n=>simp[bP,azJ]at ak;subst ak;exact⟨.slot n,h.aP n,λs hs=>axu⟩
 |const v=>
  simp[bP,aAt]at ak;obtain⟨z,aQ,rfl⟩:=ak;refine⟨.res,.ck ?_,λs hs=>axv⟩;unfold G5 at aQ;split at aQ
  .split at aQ
   .simp at aQ;subst aQ;exact Hg ‹_›
   simp_all
  simp_all
 |global g=>simp[bP,azJ]at ak;subst ak;exact⟨.res,.ck (.d _ _ (h.eI.1 g)),λs hs=>axv⟩
 |func f=>simp[bP,azJ]at ak;subst ak;exact⟨.res,.ck (.d _ _ (.fn f)),λs hs=>axv⟩
theorem bX.set{tmps:Array Value}{d:Nat}{v:Value}{x:ag}(h:bX gl w G ρ lam tmps st)(a6:d<tmps.size)(hv:de w G ρ lam (.slot d) v x):bX gl w G ρ lam (tmps.setIfInBounds d v) (st.set d x) where
 aP t:=by
  simp only[af.set,df];by_cases aC:t=d
  .simp_all
  .have:(tmps.setIfInBounds d v).getD t undef=tmps.getD t undef:=by
    simp_all[azZ]
   grind[aP]
 bI:=h.bI
 nb:=h.nb
 ob:=h.ob
 eI:=h.eI
 lt:=h.lt
end
end
def azI:=@Nat.le_refl
def aAW:=@Nat.not_lt
def aAk:=@Array.getElem?_eq_some_iff
def az4:=@if_false
theorem axt(h:p:=by simp):p:=h
theorem axM(h:p:=by simp_all[execOp]):p:=h
theorem axU(h:p:=by grind[cZ]):p:=h
theorem ayn(h:p:=by grind[h8]):p:=h
def gL(P:Program)(f:Nat):Prop:=∃fn,P.funcs[f]?=some fn/\fn.body.isNone=false/\(fn.name== "runtime.NumGoroutine")=false
def bM(P:Program)(gl:Nat->List D)(f:Nat)(args:List ag)(s:aV)(r:ag)(s':aV):Prop:=
 gL P f/\∀(w:World) (G:bJ) (ρ:List Nat) (vs:List Value),ho w G ρ s->o5 gl w G->(∀b L n,G b=some (L,n)->b<w.heap.size)->cf w G ρ vs args->
  Calls P f ⟨vs⟩ w λe w'=>∃v G' ρ',e=.returned v/\dr w' G' ρ' .res v r/\ho w' G' ρ' s'/\(∀b L n,G' b=some (L,n)->b<w'.heap.size)/\Good w G w' G'/\
   (∀i b:Nat,ρ[i]?=some b->ρ'[i]?=some b)
def a7(P:Program)(f:Nat)(cO:aX):Prop:=∃fn an,P.funcs[f]?=some fn/\(fn.name== "runtime.NumGoroutine")=false/\ur P an fn=some cO
def bz(P:Program)(gl:Nat->List D):mc Prop where
 fail:=False
 guard b p:=b=true/\p
 call f args s K:=∃r s',bM P gl f args s r s'/\K r s'
 fix F st:=∃(I:Nat->af->Prop) (n:Nat),I n st/\∀n st,I n st->F st λaU=>∃m,m<n/\I m aU
 both:=And
 iter g k:=∃cO,a7 P g cO/\k cO
theorem Good.refl{w:World}{G:bJ}(h:∀b L n,G b=some (L,n)->b<w.heap.size):Good w G w G where
 size:=azI _
 il _ _ _:=⟨rfl,rfl⟩
 new _ _ aq dB:=absurd (h _ _ _ dB) (aAW.2 aq)
 old _ _ _ h:=h
 keep:=da.refl _ _
 os:=rfl
 out:=rfl
theorem hE{ρ l:List Nat}:∀i b:Nat,ρ[i]?=some b->(ρ++l)[i]?=some b:=axv
def mark(D:Nat):Deferred:={target:=.collected D,args:= #[]}
def Marks(n0:Nat)(w:World)(G:bJ)(l:List Deferred):Prop:=
 ∃hq:List Nat,l=hq.map mark/\hq.Nodup/\∀D,D∈hq->n0<=D/\w.heap[D]?=some (.deferred (some []))/\G D=none
theorem Marks.good{n0:Nat}{w w':World}{G G':bJ}{l:List Deferred}(h:Marks n0 w G l)(aE:Good w G w' G'):Marks n0 w' G' l:=by
 obtain⟨hq,h1,h2,av⟩:=h;refine⟨hq,h1,h2,λD cH=> ?_⟩;obtain⟨aj,aD,aW⟩:=av D cH;have aB:=(aAk.1 aD).1;grind[Good.il]
theorem Marks.nil{n0:Nat}{w:World}{G:bJ}:Marks n0 w G []:=⟨[],rfl,List.nodup_nil,λD cH=>axu⟩
def cy(n0:Nat)(gl:Nat->List D)(nt:Nat)(w:World)(G:bJ)(ρ:List Nat)(K:af->Prop)(a':Act)(w':World):Prop:=
 nt<=a'.tmps.size/\∃G' ρ' lam' aU,Marks n0 w' G' a'.defers/\bX gl w' G' ρ' lam' a'.tmps aU/\Good w G w' G'/\(∀i b:Nat,ρ[i]?=some b->ρ'[i]?=some b)/\K aU
theorem jT{gl:Nat->List D}{n0 nt:Nat}{w w':World}{G:bJ}{ρ:List Nat}{a a':Act}{K:af->Prop}(hm:Marks n0 w G a.defers)(h1:a'.defers=a.defers)(h2:nt<=a'.tmps.size)(G':bJ)(ρ':List Nat)
  (lam':Nat->Option Nat) (aU:af) (av:bX gl w' G' ρ' lam' a'.tmps aU) (aZ:Good w G w' G') (bW:∀i b:Nat,ρ[i]?=some b->ρ'[i]?=some b) (dh:K aU):cy n0 gl nt w G ρ K a' w':=
 ⟨h2,G',ρ',lam',aU,by grind[Marks.good],av,aZ,bW,dh⟩
section
variable {P:Program}{gl:Nat->List D}{n0 nt:Nat}{a:Act}{w w':World}{G G':bJ}{ρ ρ':List Nat}{lam lam':Nat->Option Nat}{st aU:af}{K:af->Prop}{o:Oper}{Q:Exit->Act->World->Prop}
theorem fP{next:Act->World->Prop}{v:Value}(aw:(execOp a.eval o).run P w=.ok (.value v) w')(h:next (a.put o.dst v) w'):o.wp P a w next Q:=by
 unfold Oper.wp;rw[aw];exact h
theorem uu{next:Act->World->Prop}(aw:(execOp a.eval o).run P w=.ok .skip w')(h:next (a.put o.dst undef) w'):o.wp P a w next Q:=by
 unfold Oper.wp;rw[aw];exact h
theorem h8(a:Act)(d:Option Nat)(v:Value):(a.put d v).tmps.size=a.tmps.size:=by
 cases d<;>simp[Act.put]
theorem put_defers(a:Act)(d:Option Nat)(v:Value):(a.put d v).defers=a.defers:=by
 cases d<;>simp[Act.put]
theorem nF{w0:World}{G0:bJ}{ρ0:List Nat}{d:Nat}{v:Value}{x:ag}(h:bX gl w G ρ lam a.tmps st)(vU:Marks n0 w0 G0 a.defers)(az:nt<=a.tmps.size)(bp:d<nt)(aE:Good w0 G0 w G)(yb:∀i b:Nat,ρ0[i]?=some b->ρ[i]?=some b)(aY:o.dst=some d)
  (hv:de w G ρ lam (.slot d) v x) (ao:K (st.set d x)):cy n0 gl nt w0 G0 ρ0 K (a.put o.dst v) w:=
 (jT vU (put_defers _ _ _) ayn G ρ lam _ (by rw[aY];exact h.set (az' bp az) hv) aE yb ao)
def cZ(ad:Loc->Loc)(G:bJ):bJ:=λb=>(G b).map λp=>(ad p.1,p.2)
theorem AE{ad:Loc->Loc}{b:Nat}{L:Loc}{n:Nat}(h:G b=some (L,n)):cZ ad G b=some (ad L,n):=axU
theorem Dz{ad:Loc->Loc}{b:Nat}{L:Loc}{n:Nat}(h:cZ ad G b=some (L,n)):∃L',G b=some (L',n)/\ad L'=L:=by
 simp_all[cZ]
theorem Nd{ad:Loc->Loc}{b off:Nat}:Ha (cZ ad G) b off↔Ha G b off:=
 ⟨λh L n aE=>h _ n (AE aE),λh L n aE=>by obtain⟨L',og,_⟩:=Dz aE;exact h _ _ og⟩
theorem Nf{ad:Loc->Loc}{b:Nat}:cZ ad G b=none↔G b=none:=by simp[cZ]
theorem jD(ad:Loc->Loc):da w G w (cZ ad G):=⟨λ_ _ _ h=>⟨h.1,Nd.2 h.2.1,h.2.2⟩,λ_ _ h=>⟨Nf.2 h.1,h.2⟩,λ_ _ h=>h⟩
theorem atp(ad:Loc->Loc):da w (cZ ad G) w G:=⟨λ_ _ _ h=>⟨h.1,Nd.1 h.2.1,h.2.2⟩,λ_ _ h=>⟨Nf.1 h.1,h.2⟩,λ_ _ h=>h⟩
theorem oh(ad:Loc->Loc)(L:Loc):eV L (ad L) w G w (cZ ad G):=λ_ _ h=>⟨rfl,AE h⟩
theorem ri{ad:Loc->Loc}{L:Loc}(h:ad L=L):eV L L w G w (cZ ad G):=by grind[oh]
theorem Ng{ad:Loc->Loc}(h:∀b L n,G b=some (L,n)->b<w.heap.size)(h1:ad .foreign=.foreign)(h2:∀L,ad L=.foreign->L=.foreign):Good w G w (cZ ad G) where
 size:=azI _
 il b _ dB:=⟨rfl,axU⟩
 new b n aq dB:=by obtain⟨L',aE,_⟩:=Dz dB;grind
 old b n aq dB:=by grind[Dz]
 keep:=jD ad
 os:=rfl
 out:=rfl
theorem qc{ad:Loc->Loc}(h:∀b L n,G b=some (L,n)->b<w.heap.size):∀b L n,cZ ad G b=some (L,n)->b<w.heap.size:=
 λ_ _ _ aE=>by grind[Dz]
def fc(s d:Loc)(L:Loc):Loc:=if L=s then d else L
theorem qd{s d L:Loc}(h:L≠s):fc s d L=L:=by grind[fc]
theorem sI{s d:Loc}:fc s d s=d:=by simp[fc]
theorem qe{s d:Loc}(h:∀b L n,G b=some (L,n)->b<w.heap.size)(hs:s≠.foreign)(a6:d≠.foreign):Good w G w (cZ (fc s d) G):=
 Ng h (qd (azZ hs)) λL bF=>by
  grind[sI,qd]
theorem bX.take{d s:Nat}(h:bX gl w G ρ lam a.tmps st)(a6:d<a.tmps.size):
  bX gl w (cZ (fc (.slot s) (.slot d)) G) ρ lam (a.tmps.setIfInBounds d (a.tmps.getD s undef)) ((st.set s .undef).set d (st.aP s)):=by
 have au:da w G w (cZ (fc (.slot s) (.slot d)) G):=jD _;have hid:∀L,L≠.slot s->eV L L w G w (cZ (fc (.slot s) (.slot d)) G):=λL bF=>ri (qd bF);refine bX.set (st:=st.set s .undef) ⟨?_,?_,h.nb,?_,h.eI.bR au,qc h.lt⟩ a6 ?_
 .intro t;simp only[af.set,df];by_cases aC:t=s
  .simp[aC,if_true];exact .ck (.undef _)
  .simp only[aC,az4];exact(h.aP t).bR au (λ_ _ h=>h) (λ_ _ h=>h) (hid _ axv)
 .intro t cs aq;obtain⟨b,h1,h2⟩:=h.bI t cs aq;exact⟨b,h1,dJ.bR au (λ_ _ h=>h) (hid _ axt) (λj=>hid _ axt) h2⟩
 .exact h.ob.bR au (λi=>hid _ axt) (λi j=>hid _ axt)
 .have:=oh (w:=w) (G:=G) (fc (.slot s) (.slot d)) (.slot s);rw[sI]at this;exact(h.aP s).bR au (λ_ _ h=>h) (λ_ _ h=>h) this
theorem Hh{w0:World}{G0:bJ}{ρ0:List Nat}{d s:Nat}(h:bX gl w G ρ lam a.tmps st)(vU:Marks n0 w0 G0 a.defers)(az:nt<=a.tmps.size)(bp:d<nt)(aE:Good w0 G0 w G)(yb:∀i b:Nat,ρ0[i]?=some b->ρ[i]?=some b)(aY:o.dst=some d)
  (ao:K ((st.set s .undef).set d (st.aP s))):cy n0 gl nt w0 G0 ρ0 K (a.put o.dst (a.tmps.getD s undef)) w:=
 (jT vU (put_defers _ _ _) ayn _ ρ lam _ (by rw[aY];exact h.take (az' bp az)) (aE.trans (qe h.lt axt axt)) yb ao)
theorem vV{t:Nat}{x:Operand}{y:O}{L:Loc}(ak:bP P t x=some y)(h:bX gl w G ρ lam a.tmps st):de w G ρ lam L (a.eval x) (snap (aK gl st y)):=by
 grind[Nc,de.snap]
theorem dC{t:Nat}{x:Operand}{y:O}(ak:bP P t x=some y)(h:bX gl w G ρ lam a.tmps st):∃L,de w G ρ lam L (a.eval x) (aK gl st y):=by
 grind[Nc]
theorem Hi{t:Nat}{x:Operand}{y:O}(ak:bP P t x=some y)(h:bX gl w G ρ lam a.tmps st):(∃s,x=.tmp s/\y=.t s)\/((∀s,y≠.t s)/\dc w G ρ (a.eval x) (aK gl st y)):=by
 cases x with
 |tmp n=>grind[bP]
 |const v=>
  simp[bP,aAt]at ak;obtain⟨z,aQ,rfl⟩:=ak;refine .inr ⟨(λs hs=>axv),?_⟩;unfold G5 at aQ;split at aQ
  .split at aQ
   .simp at aQ;subst aQ;exact Hg ‹_›
   simp_all
  simp_all
 |global g=>simp[bP,azJ]at ak;subst ak;exact .inr ⟨(λs hs=>axv),.d _ _ (h.eI.1 g)⟩
 |func f=>simp[bP,azJ]at ak;subst ak;exact .inr ⟨(λs hs=>axv),.d _ _ (.fn f)⟩
structure bV(n0:Nat)(gl:Nat->List D)(nt:Nat)(w:World)(G:bJ)(ρ:List Nat)(lam:Nat->Option Nat)(a:Act)(st:af):Prop where
 rel:bX gl w G ρ lam a.tmps st
 eC:Marks n0 w G a.defers
 sz:nt<=a.tmps.size
theorem bV.value{d:Nat}{v:Value}{x:ag}(p:bV n0 gl nt w G ρ lam a st)(aY:o.dst=some d)(bp:d<nt)(aw:(execOp a.eval o).run P w=.ok (.value v) w)
  (hv:de w G ρ lam (.slot d) v x) (ao:K (st.set d x)):o.wp P a w (cy n0 gl nt w G ρ K) Q:=
 fP aw (nF p.rel p.eC p.sz bp (Good.refl p.rel.lt) (λ_ _ h=>h) aY hv ao)
theorem adl{d:Nat}{x:Operand}{y:O}{t:Nat}(p:bV n0 gl nt w G ρ lam a st)(aY:o.dst=some d)(bp:d<nt)(bu:o.op=.move x)(ak:bP P t x=some y)
  (hs:step (bz P gl) gl (.cS d y) st K):o.wp P a w (cy n0 gl nt w G ρ K) Q:=
 p.value aY bp (v:=a.eval x) axM (vV ak p.rel) hs
theorem adn{d s:Nat}(p:bV n0 gl nt w G ρ lam a st)(aY:o.dst=some d)(bp:d<nt)(bu:o.op=.move (.tmp s))
  (hs:step (bz P gl) gl (.hb d s) st K):o.wp P a w (cy n0 gl nt w G ρ K) Q:=
 fP (v:=a.tmps.getD s undef) (by simp only[execOp,bu];rfl) (Hh p.rel p.eC p.sz bp (Good.refl p.rel.lt) (λ_ _ h=>h) aY hs)
theorem vW(st:af)(y:O):(kill st y=st/\(∀s,y=.t s->q5 (st.aP s)=false))\/∃s,y=.t s/\kill st y=st.set s .undef/\∃z,q5 z=true/\st.aP s=z:=by
 cases y with
 |t s=>
  cases ak:st.aP s with
  |own sz l=>exact .inr ⟨s,rfl,by grind[kill],_,rfl,ak⟩
  |gE sz=>exact .inr ⟨s,rfl,by grind[kill],_,rfl,ak⟩
  |raw sz n us=>exact .inr ⟨s,rfl,by grind[kill],_,rfl,ak⟩
  |_=>exact .inl ⟨by grind[kill],λs' gp=>by cases gp;rw[ak];rfl⟩
 |c v=>exact .inl ⟨rfl,λs hs=>axv⟩
 |g n=>exact .inl ⟨rfl,λs hs=>axv⟩
theorem de.ado{v:Value}{x:ag}{L L':Loc}(h:de w G ρ lam L v x)(ak:q5 x=false):de w G ρ lam L' v x:=by
 rcases h.cases with h|⟨t,off,b,rfl,h1,h2⟩
 .rcases h.cases with h|⟨sz,l,rfl,dV⟩|⟨sz,n,us,rfl,cX⟩
  .exact .ck h
  .cases l<;>simp[ij,q5]at ak
  grind[q5]
 .exact⟨b,h1,h2⟩
theorem Nh{d:Nat}{x:Operand}{y:O}{t:Nat}(p:bV n0 gl nt w G ρ lam a st)(aY:o.dst=some d)(bp:d<nt)(bu:o.op=.assign x)(ak:bP P t x=some y)
  (hs:step (bz P gl) gl (.eZ d y) st K):o.wp P a w (cy n0 gl nt w G ρ K) Q:=by
 have aw:(execOp a.eval o).run P w=.ok (.value (a.eval x)) w:=axM;simp[step]at hs;rcases Hi ak p.rel with⟨s,rfl,rfl⟩|⟨az,hA⟩
 .rcases vW st (.t s)with⟨au,qf⟩|⟨s',gp,au,_⟩
  .rw[au]at hs;exact p.value aY bp aw ((p.rel.aP s).ado (qf s rfl)) hs
  .cases gp;rw[au]at hs;exact fP aw (Hh p.rel p.eC p.sz bp (Good.refl p.rel.lt) (λ_ _ h=>h) aY hs)
 .rcases vW st y with⟨au,_⟩|⟨s',gp,au,_⟩
  .rw[au]at hs;exact p.value aY bp aw (.ck hA) hs
  simp_all
theorem de.iq{v:Value}{x:D}{L:Loc}(h:de w G ρ lam L v (.d x)):Rd w G v x:=by
 have cG:=h;cases cG;omega
theorem de.bool{v:Value}{b:Bool}{L:Loc}(h:de w G ρ lam L v (.d (.bool b))):v=.bool b:=by
 have:=h.iq;cases this;rfl
theorem de.int{v:Value}{k:IntKind}{n:Int}{L:Loc}(h:de w G ρ lam L v (.d (.int k n))):v=.int k n:=by
 have:=h.iq;cases this;rfl
theorem de.str{v:Value}{l:List UInt8}{L:Loc}(h:de w G ρ lam L v (.d (.str l))):∃s:ByteArray,v=.string s/\s.data.toList=l:=by
 have:=h.iq;cases this with|str s _ h=>exact⟨s,rfl,h⟩
theorem adp{d:Nat}{c x y:Operand}{c' bx y':O}{t u:Nat}(p:bV n0 gl nt w G ρ lam a st)(aY:o.dst=some d)(bp:d<nt)(bu:o.op=.pick c x y)(ay:bP P t c=some c')(ak:bP P u x=some bx)(hy:bP P u y=some y')
  (hs:step (bz P gl) gl (.ei d c' bx y') st K):o.wp P a w (cy n0 gl nt w G ρ K) Q:=by
 obtain⟨L,uv⟩:=dC ay p.rel;simp[step]at hs;split at hs
 .rename_i b aq;rw[aq]at uv;have atq:=uv.bool;cases b with
  |true=>exact p.value aY bp (v:=a.eval x) (by simp_all[execOp,asBool]) (vV ak p.rel) axu
  |false=>exact p.value aY bp (v:=a.eval y) (by simp_all[execOp,asBool]) (vV hy p.rel) axu
 .exact hs.elim
def azP:=@Go.Sem.run_bind
def aAd:=@Prod.mk.injEq
def azS:=@Go.Result.andThen_ok
def aA7:=@Go.ByteArray.toList_eq
theorem axs(h:p:=by omega):p:=h
theorem ax9(h:p:=by simp_all[binOp,Op.intCmp]):p:=h
theorem ayx(h:p:=by simp_all[binOp,Op.intBits]):p:=h
theorem ayS(h:p:=by simp_all[binOp,Op.intArith]):p:=h
theorem azd(h:p:=by rw[aA7,aA7,yc];exact .bool _):p:=h
theorem aze(h:p:=by rw[aA7,aA7,bytesLess_eq];exact .bool _):p:=h
theorem azf(h:p:=by rw[aA7,aA7,bytesLess_eq,yc];exact .bool _):p:=h
theorem eB{t:Nat}{d:TypeDesc}(h:P.underlying t=some d)(w:World):(underlying t).run P w=.ok d w:=by
 simp_all[underlying]
theorem jE{t n:Nat}(h:dp P t=some n)(w:World):(sizeOf t).run P w=.ok n w:=by
 unfold dp at h;cases hi:P.info? t with
 |none=>simp_all
 |some i=>
  simp_all[sizeOf,typeInfo]
theorem vX{t:Nat}{b:Bool}(h:kf P t=some b)(w:World):(isAgg t).run P w=.ok b w:=by
 unfold kf at h;unfold isAgg;cases hu:P.underlying t with
 |none=>simp_all
 |some d=>
  rw[azP,eB hu w];cases d<;>simp[hu]at h<;>subst h<;>rfl
theorem Ni(x y:Int):(x==y)=decide (x=y):=axv
theorem adq{op:BinOp}{k:IntKind}{x y:Int}{r:D}{ok:Bool}(h:An op k x y=some (ok,r))(fQ:ok=true)(t:Nat):
  ∃v,(binOp op t (.int k x) (.int k y)).run P w=.ok v w/\Rd w G v r:=by
 cases op<;>simp[An,azJ,aAd,reduceCtorEq]at h<;>obtain⟨h1,rfl⟩:=h;case quo=>
  have h0:y≠0:=axu;exact⟨_,by simp_all[binOp,Op.intDiv],.int _ _⟩
 case rem=>
  have h0:y≠0:=axu;exact⟨_,by simp_all[binOp,Op.intDiv],.int _ _⟩
 case add=>exact⟨_,ayS,.int _ _⟩
 case sub=>exact⟨_,ayS,.int _ _⟩
 case mul=>exact⟨_,ayS,.int _ _⟩
 case and=>exact⟨_,ayx,.int _ _⟩
 case or=>exact⟨_,ayx,.int _ _⟩
 case xor=>exact⟨_,ayx,.int _ _⟩
 case andNot=>exact⟨_,ayx,.int _ _⟩
 case eql=>exact⟨.bool (x==y),ax9,by exact .bool _⟩
 case neq=>exact⟨.bool (x != y),ax9,by exact .bool _⟩
 case lss=>exact⟨.bool (decide (x<y)),ax9,.bool _⟩
 case leq=>exact⟨.bool (decide (x<=y)),ax9,.bool _⟩
 case gtr=>exact⟨.bool (decide (x>y)),ax9,.bool _⟩
 case geq=>exact⟨.bool (decide (x>=y)),ax9,.bool _⟩
theorem adr{op:BinOp}{k k':IntKind}{x y:Int}{r:D}(h:vP op k x y=some r)(hy:0<=y)(t:Nat):
  ∃v,(binOp op t (.int k x) (.int k' y)).run P w=.ok v w/\Rd w G v r:=by
 have az:¬y<0:=axs;cases op<;>simp[vP,azJ,reduceCtorEq]at h<;>subst h;case shl=>exact⟨_,by simp only[binOp,Op.shift,az,az4];rfl,.int _ _⟩
 case shr=>exact⟨_,by simp only[binOp,Op.shift,az,az4];rfl,.int _ _⟩
theorem atr{op:BinOp}{k:IntKind}{x y:Int}(h:vP op k x y=none):op≠.shl/\op≠.shr:=by
 grind[vP]
theorem bytesLess_eq:∀a b:List UInt8,Op.bytesLess a b=bytesLess a b
 |_,[]=>by simp[Op.bytesLess,bytesLess]
 |[],_::_=>by simp[Op.bytesLess,bytesLess]
 |a::x,b::y=>by
  simp[Op.bytesLess,bytesLess,bytesLess_eq x y];congr 1
theorem yc(a b:List UInt8):(a==b)=decide (a=b):=axv
theorem ads{op:BinOp}{x y:ByteArray}{r:D}{ok:Bool}(h:Ao op x.data.toList y.data.toList=some (ok,r))(fQ:ok=true)(t:Nat):
  ∃v,(binOp op t (.string x) (.string y)).run P w=.ok v w/\Rd w G v r:=by
 have aq:∀sJ,binOp sJ t (.string x) (.string y)=Op.stringOp sJ x y:=λsJ=>by cases sJ<;>rfl
 cases op<;>simp only[Ao,azJ,aAd,reduceCtorEq]at h<;>obtain⟨h1,rfl⟩:=h;case add=>
  rw[fQ]at h1;have h2:=by simpa [G2]using of_decide_eq_true h1
  refine⟨.string (x++y),?_,.str _ _ axt⟩;have av:¬(((x.size+y.size:Nat):Int)>IntKind.i64.max):=by grind[IntKind.max,IntKind.bits]
  simp_all[Op.stringOp]
 case eql=>exact⟨.bool (x.toList==y.toList),rfl,azd⟩
 case neq=>exact⟨.bool (!(x.toList==y.toList)),rfl,azd⟩
 case lss=>exact⟨.bool (Op.bytesLess x.toList y.toList),rfl,aze⟩
 case leq=>exact⟨.bool (Op.bytesLess x.toList y.toList||x.toList==y.toList),rfl,azf⟩
 case gtr=>exact⟨.bool (!(Op.bytesLess x.toList y.toList||x.toList==y.toList)),rfl,azf⟩
 case geq=>exact⟨.bool (!(Op.bytesLess x.toList y.toList)),rfl,aze⟩
theorem Hj{op:BinOp}{t:Nat}{x y:Operand}{u v:Value}(h1:u.oneCell'=true)(h2:u≠.nilIface):(eqGuard op t x y u v).run P w=.ok () w:=by
 cases u<;>first
  |(simp[Value.oneCell']at h1;done)
  |(exact absurd rfl h2)
  |(cases op<;>rfl)
theorem Nj{d:Nat}{x y:Operand}{bx y':O}{op:BinOp}{t u t1 t2:Nat}(p:bV n0 gl nt w G ρ lam a st)(aY:o.dst=some d)(bp:d<nt)(bu:o.op=.binOp op t x y u)(ak:bP P t1 x=some bx)(hy:bP P t2 y=some y')
  (hs:step (bz P gl) gl (.bi d op bx y') st K):o.wp P a w (cy n0 gl nt w G ρ K) Q:=by
 obtain⟨e6,h1⟩:=dC ak p.rel;obtain⟨iX,h2⟩:=dC hy p.rel;have fin:∀{v:Value} {r:D},(∀z,a.eval x=z->z.oneCell'=true/\z≠.nilIface)->(binOp op t (a.eval x) (a.eval y)).run P w=.ok v w->Rd w G v r->K (st.set d (.d r))->o.wp P a w (cy n0 gl nt w G ρ K) Q:=by
  intro v r aQ aw hv ao;refine p.value aY bp (v:=v) ?_ (.ck (.d _ _ hv)) ao;have:=Hj (P:=P) (w:=w) (op:=op) (t:=t) (x:=x) (y:=y) (v:=a.eval y) (aQ _ rfl).1 (aQ _ rfl).2;grind[execOp,Sem.run_bind,Result.andThen_ok,Sem.run_pure]
 simp[step]at hs;split at hs
 .rename_i k m k' n aj aD;rw[aj]at h1;rw[aD]at h2;have v1:=h1.int;have v2:=h2.int;have aQ:∀z,a.eval x=z->z.oneCell'=true/\z≠.nilIface:=by grind[Value.oneCell']
  split at hs
  .rename_i r aw;obtain⟨hp,ao⟩:=hs;obtain⟨v,b8,sK⟩:=adr (P:=P) (w:=w) (G:=G) (k':=k') aw axu t;grind
  .split at hs
   .rename_i ok r aw;obtain⟨lL,fQ,ao⟩:=hs;obtain rfl:k=k':=axu;obtain⟨v,b8,sK⟩:=adq (P:=P) (w:=w) (G:=G) aw fQ t;grind
   .exact hs.elim
 .rename_i m n aj aD;rw[aj]at h1;rw[aD]at h2;obtain⟨s1,v1,rfl⟩:=h1.str;obtain⟨s2,v2,rfl⟩:=h2.str;have aQ:∀z,a.eval x=z->z.oneCell'=true/\z≠.nilIface:=by grind[Value.oneCell']
  split at hs
  .rename_i ok r aw;obtain⟨fQ,ao⟩:=hs;obtain⟨v,b8,sK⟩:=ads (P:=P) (w:=w) (G:=G) aw fQ t;grind
  .exact hs.elim
 .exact hs.elim
theorem adt{d:Nat}{x:Operand}{bx:O}{op:UnOp}{t t1:Nat}(p:bV n0 gl nt w G ρ lam a st)(aY:o.dst=some d)(bp:d<nt)(bu:o.op=.unOp op t x)(ak:bP P t1 x=some bx)
  (hs:step (bz P gl) gl (.un d op bx) st K):o.wp P a w (cy n0 gl nt w G ρ K) Q:=by
 obtain⟨e6,h1⟩:=dC ak p.rel;simp only[step]at hs;split at hs
 .rename_i b aj;rw[aj]at h1;have v1:=h1.bool;exact p.value aY bp (v:=.bool (!b)) (by simp_all[execOp,Op.unary]) (.ck (.d _ _ (.bool _))) hs
 .rename_i k n aj;rw[aj]at h1;have v1:=h1.int;exact p.value aY bp (v:=.int k (k.wrap (0-n))) (by simp_all[execOp,Op.unary,Op.intArith]) (.ck (.d _ _ (.int _ _))) hs
 .rename_i k n aj;rw[aj]at h1;have v1:=h1.int;exact p.value aY bp (v:=.int k (k.wrap (BitVec.ofInt k.bits (if k.signed then -1 else k.max)^^^BitVec.ofInt k.bits n).toNat)) (by simp_all[execOp,Op.unary,Op.intBits]) (.ck (.d _ _ (.int _ _))) hs
 .exact hs.elim
theorem adu{d:Nat}{x:Operand}{bx:O}{s t t1:Nat}{k jd:IntKind}(p:bV n0 gl nt w G ρ lam a st)(aY:o.dst=some d)(bp:d<nt)(bu:o.op=.convert s t x)(ak:bP P t1 x=some bx)
  (vY:P.underlying s=some (.int jd)) (qg:P.underlying t=some (.int k)) (hs:step (bz P gl) gl (.ci d k bx) st K):o.wp P a w (cy n0 gl nt w G ρ K) Q:=by
 obtain⟨e6,h1⟩:=dC ak p.rel;simp[step]at hs;split at hs
 .rename_i bN n aj;rw[aj]at h1;have v1:=h1.int;refine p.value aY bp (v:=.int k (k.wrap n)) ?_ (.ck (.d _ _ (.int _ _))) hs;simp[execOp,bu,v1,convert,azP,eB vY,eB qg,azS];rfl
 .exact hs.elim
theorem adv{d:Nat}{x:Operand}{bx:O}{s t t1:Nat}(p:bV n0 gl nt w G ρ lam a st)(aY:o.dst=some d)(bp:d<nt)(bu:o.op=.convert s t x)(ak:bP P t1 x=some bx)
  (vY:P.underlying s=some .string) (qg:P.underlying t=some .string) {l:List UInt8} (he:aK gl st bx=.d (.str l)) (hs:step (bz P gl) gl (.cS d bx) st K):o.wp P a w (cy n0 gl nt w G ρ K) Q:=by
 obtain⟨e6,h1⟩:=dC ak p.rel;rw[he]at h1;obtain⟨s1,v1,_⟩:=h1.str;refine p.value aY bp (v:=a.eval x) ?_ (vV ak p.rel) hs;simp only[execOp,bu,v1,convert,azP,eB vY,eB qg,azS];rfl
def aBf:=@List.cons_append
def az0:=@List.length_cons
def aBE:=@List.take_succ_cons
def aBW:=@List.drop_succ_cons
def azU:=@Go.Sem.run_pure
def aAI:=@List.drop_eq_getElem_cons
def aAa:=@if_pos
def aBg:=@Go.Sem.run_ite
theorem axN(h:p:=by grind[cF]):p:=h
theorem ax3(h:p:=by grind[kinds]):p:=h
theorem ax4(h:p:=by grind[hd]):p:=h
theorem DA:∀{ks:List Nat} {xs ys:List D} {r:Bool},cF ks xs ys=some r->xs.length=ks.length/\ys.length=ks.length
 |[],[],[],_,_=>⟨rfl,rfl⟩
 |[],[],_::_,_,h=>axN
 |[],_::_,_,_,h=>axN
 |_::_,[],_,_,h=>axN
 |_::_,_::_,[],_,h=>axN
 |k::ks,x::xs,y::ys,r,h=>by
  have:∃fJ,cF ks xs ys=some fJ:=by
   unfold cF at h;split at h
   .cases he:cF ks xs ys<;>simp[he]at h⊢
   .cases he:cF ks xs ys with
    |none=>simp_all
    |some fJ=>simp
   .cases he:cF ks xs ys<;>simp[he]at h⊢
   simp_all
  obtain⟨fJ,aw⟩:=this;have:=DA aw;simp_all
theorem DB:∀{bN cz:List Nat} {xs ys:List D} {r:Bool},cF (bN++cz) xs ys=some r->
  ∃bU b4,cF bN (xs.take bN.length) (ys.take bN.length)=some bU/\cF cz (xs.drop bN.length) (ys.drop bN.length)=some b4/\r=(bU&&b4)
 |[],_,_,_,r,h=>⟨true,r,by simp[cF],axu,axt⟩
 |_::_,_,[],_,_,h=>axN
 |_::_,_,_::_,[],_,h=>axN
 |k::bN,cz,x::xs,y::ys,r,h=>by
  simp only[aBf,az0,aBE,aBW]at h⊢;unfold cF at h;split at h
  .rename_i p q;cases he:cF (bN++cz) xs ys with
   |none=>simp_all
   |some fJ=>
    obtain⟨bU,b4,h1,h2,av⟩:=DB he;grind[cF]
  .rename_i i p j q;cases a6:decide (i=j)with
   |false=>simp_all
   |true=>
    cases he:cF (bN++cz) xs ys with
    |none=>simp_all
    |some fJ=>
     obtain⟨bU,b4,h1,h2,av⟩:=DB he;simp_all[cF,Bool.and_assoc]
  .rename_i p q;cases he:cF (bN++cz) xs ys with
   |none=>simp_all
   |some fJ=>
    obtain⟨bU,b4,h1,h2,av⟩:=DB he;grind[cF]
  simp_all
def shaped(P:Program)(t:Nat)(vs:List Value)(v:Value):Prop:=if hd P t then v=.agg ⟨vs⟩else vs=[v]
theorem adw{t:Nat}{ks:List Nat}{n:Nat}(h:kinds P n t=some ks)(w:World):(isAgg t).run P w=.ok (hd P t) w:=by
 cases n with
 |zero=>grind[kinds]
 |succ n=>
  unfold kinds at h;unfold isAgg;cases hu:P.underlying t with
  |none=>simp_all
  |some d=>
   rw[azP,eB hu w];cases d<;>simp[hd,hu]at h⊢
theorem Hk{t:Nat}{ks:List Nat}{n off:Nat}(h:kinds P n t=some ks)(cm:dp P t=some ks.length)(V:Array Value)(hlen:off+ks.length<=V.size)(jU:hd P t=false->ks.length=1)(w:World):
  ∃v,(part t V off).run P w=.ok v w/\shaped P t ((V.toList.drop off).take ks.length) v:=by
 unfold part;rw[azP,adw h w,azS];cases hs:hd P t with
 |true=>
  simp only[if_true,azP,jE cm,azS,azU];refine⟨_,rfl,?_⟩;simp[shaped,hs,if_true];grind
 |false=>
  have h1:=jU hs;have aB:off<V.size:=axs;simp_all[shaped,aAI]
theorem Hl{n t:Nat}{ks:List Nat}(h:kinds P n t=some ks)(hs:hd P t=false):ks.length=1:=by
 cases n with
 |zero=>grind[kinds]
 |succ n=>
  grind[kinds,hd]
theorem DC{x y:D}{r:Bool}(h:cF [0] [x] [y]=some r):∃p q,x=.bool p/\y=.bool q/\r=(p==q):=by
 cases x<;>cases y<;>simp[cF]at h;simp_all
theorem Nk{x y:D}{r:Bool}(h:cF [1] [x] [y]=some r):∃k p q,x=.int k p/\y=.int k q/\r=decide (p=q):=by
 cases x<;>cases y<;>simp[cF]at h;rename_i k p k' q;cases a6:decide (k=k')<;>simp[a6]at h;obtain rfl:k=k':=axu;grind
theorem Nl{x y:D}{r:Bool}(h:cF [2] [x] [y]=some r):∃p q,x=.str p/\y=.str q/\r=decide (p=q):=by
 cases x<;>cases y<;>simp[cF]at h;simp_all
theorem cn.one{v:Value}{xs:List D}(h:cn w G [v] xs):∃x,xs=[x]/\Rd w G v x:=by
 cases h with|cons _ x _ _ h1 h2=>cases h2;simp_all
theorem Nn(n d:Nat)(ih:∀(t:Nat) (ks:List Nat) (vs us:List Value) (xs ys:List D) (v u:Value) (r:Bool),kinds P n t=some ks->cn w G vs xs->cn w G us ys->shaped P t vs v->shaped P t us u->cF ks xs ys=some r->
   (Op.equalIn d t v u).run P w=.ok r w) (V U:Array Value):
  ∀(fs:List Field) (off:Nat) (ks:List Nat) (xs ys:List D) (r:Bool),sE P (kinds P n) fs off=some ks->cn w G (V.toList.drop off) xs->cn w G (U.toList.drop off) ys->off<=V.size->off<=U.size->cF ks xs ys=some r->
   (Op.eqFields d V U fs).run P w=.ok r w
 |[],off,ks,xs,ys,r,h,hv,hu,_,_,he=>by
  simp[sE,azJ]at h;subst h;obtain⟨h1,h2⟩:=DA he;have aj:xs=[]:=axu;have aD:ys=[]:=axu;subst aj;subst aD;simp[cF,azJ]at he;subst he;rfl
 |f::fs,off,ks,xs,ys,r,h,hv,hu,hV,ats,he=>by
  unfold sE at h;split at h
  .rename_i az;obtain⟨sL,DE⟩:=az;cases au:kinds P n f.type with
   |none=>simp_all
   |some bN=>
    simp[au]at h;cases bm:sE P (kinds P n) fs (off+bN.length)with
    |none=>simp_all
    |some cz=>
     simp only[bm]at h;split at h
     .rename_i cm;simp at h;subst h;obtain⟨bU,b4,aj,aD,aW⟩:=DB he;obtain⟨l1,l2⟩:=DA he;have adx:=hv.length;have ady:=hu.length;simp at l1 l2 adx ady;have DF:off+bN.length<=V.size:=axs;have Np:off+bN.length<=U.size:=axs;obtain⟨pv,Nq,rj⟩:=Hk au cm V DF (Hl au) w;obtain⟨pu,adz,AF⟩:=Hk au cm U Np (Hl au) w;have uw:=ih f.type bN _ _ _ _ pv pu bU au (hv.take bN.length) (hu.take bN.length) rj AF aj;have yd:=Nn n d ih V U fs (off+bN.length) cz (xs.drop bN.length) (ys.drop bN.length) b4 bm
       (by have:=hv.drop bN.length;simp_all) (by have:=hu.drop bN.length;simp_all) DF Np aD
      unfold Op.eqFields;rw[aAa sL,DE];simp[azP,Nq,azS,adz,uw,aBg,azU,yd];cases bU<;>simp[aW]
     simp_all
  simp_all
theorem Nr:∀(n d t:Nat) (ks:List Nat) (vs us:List Value) (xs ys:List D) (v u:Value) (r:Bool),kinds P n t=some ks->n<=d->cn w G vs xs->cn w G us ys->shaped P t vs v->shaped P t us u->cF ks xs ys=some r->
  (Op.equalIn d t v u).run P w=.ok r w
 |0,_,_,_,_,_,_,_,_,_,_,h,_,_,_,_,_,_=>ax3
 |n+1,0,_,_,_,_,_,_,_,_,_,_,h,_,_,_,_,_=>absurd h axs
 |n+1,d+1,t,ks,vs,us,xs,ys,v,u,r,h,a6,hv,hu,rj,AF,he=>by
  unfold kinds at h;cases aC:P.underlying t with
  |none=>simp_all
  |some desc=>
   simp[aC]at h;have flat:hd P t=false->vs=[v]/\us=[u]:=λhs=>by
    grind[shaped]
   cases desc<;>simp only[reduceCtorEq,azJ]at h;case bool=>
    subst h;obtain⟨rfl,rfl⟩:=flat ax4;obtain⟨x,rfl,ak⟩:=hv.one;obtain⟨y,rfl,hy⟩:=hu.one;obtain⟨p,q,rfl,rfl,rfl⟩:=DC he;cases ak;cases hy;grind[run_equalIn_bool']
   case int jd=>
    subst h;obtain⟨rfl,rfl⟩:=flat ax4;obtain⟨x,rfl,ak⟩:=hv.one;obtain⟨y,rfl,hy⟩:=hu.one;obtain⟨k,p,q,rfl,rfl,rfl⟩:=Nk he;cases ak;cases hy;simp_all[run_equalIn_int,Ni]
   case string=>
    subst h;obtain⟨rfl,rfl⟩:=flat ax4;obtain⟨x,rfl,ak⟩:=hv.one;obtain⟨y,rfl,hy⟩:=hu.one;obtain⟨p,q,rfl,rfl,rfl⟩:=Nl he;cases ak with|str s1 _ h1=>cases hy with|str s2 _ h2=>simp_all[run_equalIn_string,aA7,yc]
   case struct fs=>
    have hs:hd P t=true:=ax4;unfold shaped at rj AF;rw[aAa hs]at rj AF;subst rj;subst AF;split at h
    .rename_i ev;have oi:P.fieldsOf t=fs:=by grind[Program.fieldsOf]
     rw[run_equalIn_struct w d t _ _ axu ev,oi];exact Nn n d (λt ks vs us xs ys v u r h1 h2 av aZ bW dh=>Nr n d t ks vs us xs ys v u r h1 axs h2 av aZ bW dh) ⟨vs⟩ ⟨us⟩ fs.toList 0 ks xs ys r h axu axu axt axt he
    simp_all
def aAo:=@List.getD_eq_getElem?_getD
def azQ:=@List.getElem?_eq_getElem
def aCj:=@Int.toNat_of_nonneg
def aBX:=@Option.map_none
def aAw:=@Bool.false_eq_true
def aAX:=@List.flatMap_cons
def az6:=@List.length_append
def aAD:=@Nat.add_mul
def aAY:=@List.drop_eq_nil_of_le
def aAO:=@List.nil_append
def aBh:=@List.getElem?_drop
def aAC:=@Go.Addr.add_mid
def azN:=@decide_eq_true_eq
def azR:=@Nat.eq_of_beq_eq_true
theorem Rd.cells{v:Value}{d:D}{ah:Bool}(h:Rd w G v d)(br:ft ah d=true):∃vs,cn w G vs d.cells/\(if ah then v=.agg ⟨vs⟩else vs=[v])/\(ah=false->∀cs,d≠.agg cs):=by
 cases ah with
 |true=>
  cases d<;>simp[ft]at br;cases h with|agg vs cs h=>exact⟨vs,h,axt,axt⟩
 |false=>
  have az:∀cs,d≠.agg cs:=by grind[ft]
  refine⟨[v],?_,axt,λ_=>az⟩;have:d.cells=[d]:=by cases d<;>first|rfl|simp_all
  rw[this];exact .cons _ _ _ _ h .nil
theorem Ns{t:Nat}{ks:List Nat}{ah:Bool}{u v:Value}{x y:D}{r:Bool}(au:kinds P 10 t=some ks)(dK:hd P t=ah)(ak:Rd w G u x)(hy:Rd w G v y)(bh:ft ah x=true)(a2:ft ah y=true)
  (he:cF ks x.cells y.cells=some r):(Op.equal t u v).run P w=.ok r w:=by
 grind[Op.equal,Nr,Op.maxDepth,shaped,Rd.cells]
theorem DG{d:Nat}{x y:Operand}{bx y':O}{t u t1 t2:Nat}{neg ah:Bool}{ks:List Nat}(p:bV n0 gl nt w G ρ lam a st)(aY:o.dst=some d)(bp:d<nt)
  (bu:o.op=.binOp (if neg then .neq else .eql) t x y u) (ak:bP P t1 x=some bx) (hy:bP P t2 y=some y')
  (au:kinds P 10 t=some ks) (dK:hd P t=ah) (aE:ah=true->P.eqGuardType P.depth t=false) (aq:ah=false->P.underlying t=some .bool)
  (hs:step (bz P gl) gl (.eq d neg ah ks bx y') st K):o.wp P a w (cy n0 gl nt w G ρ K) Q:=by
 obtain⟨e6,h1⟩:=dC ak p.rel;obtain⟨iX,h2⟩:=dC hy p.rel;simp[step]at hs;split at hs
 .rename_i m n aj aD;obtain⟨br,hs⟩:=hs;simp at br;split at hs
  .rename_i r he;have bU:=h1.hl aj;have b4:=h2.hl aD;have aw:=Ns (P:=P) au dK bU b4 br.1 br.2 he;refine p.value aY bp (v:=.bool (cond neg (!r) r)) ?_ (.ck (.d _ _ (.bool _))) hs;have att:(eqGuard (if neg then .neq else .eql) t x y (a.eval x) (a.eval y)).run P w=.ok () w:=by
    cases ye:ah with
    |true=>
     obtain⟨vs,_,q1,_⟩:=bU.cells br.1;obtain⟨us,_,bK,_⟩:=b4.cells br.2;simp_all[eqGuard]
    |false=>
     have adA:=aq ye;have:ks=[0]:=ax3;rw[this]at he;have hm:m.cells=[m]:=by
      cases m<;>first|rfl|grind[ft]
     have az:n.cells=[n]:=by
      cases n<;>first|rfl|grind[ft]
     rw[hm,az]at he;obtain⟨bq,aR,rfl,rfl,_⟩:=DC he;cases Hm:a.eval x<;>rw[Hm]at bU<;>cases bU;exact Hj rfl axt
   have atu:(binOp (if neg then .neq else .eql) t (a.eval x) (a.eval y)).run P w=.ok (.bool (cond neg (!r) r)) w:=by
    have key:binOp .eql t (a.eval x) (a.eval y)=(Op.equal t (a.eval x) (a.eval y)>>= λb=>pure (.bool b))/\binOp .neq t (a.eval x) (a.eval y)=(Op.equal t (a.eval x) (a.eval y)>>= λb=>pure (.bool (!b))):=by
     cases ye:ah with
     |true=>
      obtain⟨vs,_,q1,_⟩:=bU.cells br.1;obtain⟨us,_,bK,_⟩:=b4.cells br.2;rw[ye]at q1 bK;rw[q1,bK];exact⟨rfl,rfl⟩
     |false=>
      have adA:=aq ye;have:ks=[0]:=ax3;rw[this]at he;have hm:m.cells=[m]:=by
       rw[ye]at br;cases m<;>first|rfl|grind[ft]
      have az:n.cells=[n]:=by
       rw[ye]at br;cases n<;>first|rfl|grind[ft]
      rw[hm,az]at he;obtain⟨bq,aR,rfl,rfl,_⟩:=DC he;cases Hm:a.eval x<;>rw[Hm]at bU<;>cases bU;cases adB:a.eval y<;>rw[adB]at b4<;>cases b4;exact⟨rfl,rfl⟩
    cases neg;all_goals simp_all
   grind[execOp,Sem.run_bind,Result.andThen_ok,Sem.run_pure]
  .exact hs.elim
 .exact hs.elim
theorem adC{d:Nat}{x i:Operand}{bx iI:O}{t t1 t2:Nat}(p:bV n0 gl nt w G ρ lam a st)(aY:o.dst=some d)(bp:d<nt)(bu:o.op=.index t x i)(ak:bP P t1 x=some bx)(hi:bP P t2 i=some iI)
  (hu:P.underlying t=some .string) (hs:step (bz P gl) gl (.ma d bx iI) st K):o.wp P a w (cy n0 gl nt w G ρ K) Q:=by
 obtain⟨e6,h1⟩:=dC ak p.rel;obtain⟨iX,h2⟩:=dC hi p.rel;simp only[step]at hs;split at hs
 .rename_i s k n aj aD;rw[aj]at h1;rw[aD]at h2;obtain⟨s1,v1,rfl⟩:=h1.str;have v2:=h2.int;obtain⟨aq,hs⟩:=hs;simp at aq;obtain⟨gZ,dP⟩:=aq;have aB:n.toNat<s1.size:=axu;have aE:s1[n.toNat]?=some s1[n.toNat]:=axt;have a6:s1.data.toList.getD n.toNat 0=s1[n.toNat]:=by
   have:n.toNat<s1.data.toList.length:=axu;rw[aAo,azQ this];rfl
  refine p.value aY bp (v:=.int .u8 s1[n.toNat].toNat) ?_ (.ck (.d _ _ (by rw[a6];exact .int _ _))) hs;simp_all[execOp,Instr.index,asIntOf,eB]
 .exact hs.elim
def vZ(v:Option Value)(dflt n:Nat):Prop:=(v=none/\n=dflt)\/∃k,v=some (.int k (n:Int))
theorem yf{isSlice:Bool}{len cap l h m:Nat}{lo hi mx:Option Value}(aH:vZ lo 0 l)(hh:vZ hi len h)(hm:vZ mx cap m)(h1:l<=h)(h2:h<=m)(av:m<=cap)(ak:hi=none->mx=none):
  (Instr.sliceBounds isSlice len cap lo hi mx).run P w=.ok (l,h,m) w:=by
 have h3:∀(k:IntKind) (n y:Nat) (c:BoundsCode),n<=y->(Instr.sliceBound (.int k (n:Int)) y c).run P w=.ok n w:=by
  simp_all[Instr.sliceBound,asIntOf]
 unfold Instr.sliceBounds;rcases hm with⟨rfl,rfl⟩|⟨bN,rfl⟩
 .rcases hh with⟨rfl,rfl⟩|⟨cz,rfl⟩
  .rcases aH with⟨rfl,rfl⟩|⟨gM,rfl⟩
   all_goals simp_all
  .rcases aH with⟨rfl,rfl⟩|⟨gM,rfl⟩
   all_goals simp_all
 .rcases hh with⟨rfl,rfl⟩|⟨cz,rfl⟩
  .simp_all
  .rcases aH with⟨rfl,rfl⟩|⟨gM,rfl⟩
   all_goals simp_all
theorem sM{z:Option Operand}{z':Option O}{dflt n:Int}(p:bV n0 gl nt w G ρ lam a st)(aQ:nE P 0 z=some z')(o6:bound gl st dflt z'=some n)(az:0<=n):vZ (z.map a.eval) dflt.toNat n.toNat:=by
 cases z with
 |none=>simp[nE,azJ]at aQ;subst aQ;simp[bound,azJ]at o6;exact .inl ⟨rfl,axs⟩
 |some q=>
  simp[nE,aAt]at aQ;obtain⟨q',aT,rfl⟩:=aQ;obtain⟨L,aw⟩:=dC aT p.rel;simp[bound]at o6;split at o6
  .rename_i k n' e;simp at o6;subst o6;rw[e]at aw;exact .inr ⟨k,by simp[aw.int,aCj az]⟩
  simp_all
theorem adD{d:Nat}{x:Operand}{bx:O}{lo hi:Option Operand}{oj je:Option O}{t t1:Nat}(p:bV n0 gl nt w G ρ lam a st)(aY:o.dst=some d)(bp:d<nt)(bu:o.op=.slice t x lo hi none)(ak:bP P t1 x=some bx)
  (aH:nE P 0 lo=some oj) (hh:nE P 0 hi=some je)
  (hu:P.underlying t=some .string) (hs:step (bz P gl) gl (.ss d bx oj je) st K):o.wp P a w (cy n0 gl nt w G ρ K) Q:=by
 obtain⟨e6,h1⟩:=dC ak p.rel;simp[step]at hs;split at hs
 .rename_i s aj;rw[aj]at h1;obtain⟨s1,v1,rfl⟩:=h1.str;split at hs
  .rename_i l h el yg;obtain⟨aq,hs⟩:=hs;simp at aq;obtain⟨⟨gZ,dP⟩,ux⟩:=aq;have v7:=sM p aH el gZ;have v8:=sM p hh yg axs;have ld:=yf (P:=P) (w:=w) (isSlice:=false) (cap:=s1.size) (m:=s1.size) (mx:=none) v7 (show vZ _ s1.size _ from v8) (.inl ⟨rfl,rfl⟩) axs axu (azI _) (λ_=>rfl);refine p.value aY bp (v:=.string (s1.extract l.toNat h.toNat)) ?_ (.ck (.d _ _ (.str _ _ (Lib.extract_data _ _ _)))) hs;simp[execOp,bu,v1,Instr.sliceAt,Instr.slice,azP,eB hu,azS,aBX,Option.isSome_none,aAw,az4,ld,azU]
  .exact hs.elim
 .exact hs.elim
theorem de.gK{v:Value}{x:ag}{sz:Nat}{l:List D}{L:Loc}(h:de w G ρ lam L v x)(aH:gK x=some (sz,l)):Rd w G v (.list sz l):=by
 have hs:=h.snap (L':=L);unfold aJ.gK at aH;split at aH
 .grind[iq]
 .obtain⟨rfl,rfl⟩:=aH;exact hs.iq
 .obtain⟨rfl,rfl⟩:=aH;exact hs.iq
 simp_all
theorem Rd.slice{v:Value}{sz:Nat}{l:List D}(h:Rd w G v (.list sz l)):∃cx cap,v=.slice cx l.length cap/\l.length<=cap/\(l≠[]->∃b off vs,cx=some ⟨b,off,none⟩/\(∀d,d∈l->d.cells.length=sz)/\iK w G b off vs/\cn w G vs (l.flatMap D.cells)):=by
 cases h with
 |kK cx cap _=>simp
 |list b off n cap _ _ vs h1 h2 av aZ bW=>subst h1;grind
theorem qh{sz:Nat}:∀{l:List D},(∀d,d∈l->d.cells.length=sz)->(l.flatMap D.cells).length=l.length*sz
 |[],_=>axt
 |d::l,h=>by
  simp[aAX,az6,az0,h d axt,qh (l:=l) (λx ak=>h x (by simp[ak]))];rw[aAD];omega
theorem Nt{sz:Nat}:∀{l:List D} {i:Nat} {d:D},(∀d,d∈l->d.cells.length=sz)->l[i]?=some d->((l.flatMap D.cells).drop (i*sz)).take sz=d.cells
 |[],i,d,_,h=>axv
 |x::l,0,d,hs,h=>axu
 |x::l,i+1,d,hs,h=>by
  have ak:=hs x axt;simp;rw[show(i+1)*sz=x.cells.length+i*sz by rw[ak,aAD];omega,List.drop_append];simp;rw[aAY axs,aAO];exact Nt (λd a6=>hs d (by simp[a6])) h
theorem iK.sub{b off:Nat}{vs:List Value}(h:iK w G b off vs)(k n:Nat):iK w G b (off+k) ((vs.drop k).take n):=by
 intro j v hv;rw[aBe]at hv;split at hv
 .rw[aBh]at hv;have:=h (k+j) v hv;grind
 simp_all
theorem adE{d:Nat}{x i:Operand}{bx iI:O}{t e sz t1 t2:Nat}(p:bV n0 gl nt w G ρ lam a st)(aY:o.dst=some d)(bp:d<nt)(bu:o.op=.indexAddr t x i)(ak:bP P t1 x=some bx)(hi:bP P t2 i=some iI)
  (hu:P.underlying t=some (.slice e)) (aQ:dp P e=some sz) (gq:0<sz) (hs:step (bz P gl) gl (.lF d bx iI sz) st K):o.wp P a w (cy n0 gl nt w G ρ K) Q:=by
 obtain⟨e6,h1⟩:=dC ak p.rel;obtain⟨iX,h2⟩:=dC hi p.rel;simp[step]at hs;split at hs
 .rename_i k n aD;rw[aD]at h2;have v2:=h2.int;split at hs
  .rename_i j off len cap h5 aj;rw[aj]at h1;obtain⟨aq,hs⟩:=hs;simp at aq;obtain⟨⟨gZ,dP⟩,ux⟩:=aq;have cc:=h1;cases b8:a.eval x<;>rw[b8]at cc<;>cases cc;rename_i b aq ay cm;refine p.value aY bp (v:=.pointer (some ⟨b,off+n.toNat*sz,none⟩)) ?_ (.ck (.ptr _ _ _ aq)) hs;simp[execOp,bu,b8,v2,Instr.indexAt,asIntOf,azP,azU,azS,eB hu,aAa (And.intro dP ux),jE aQ,aAC]
  .split at hs
   .rename_i h5 l aH;obtain⟨aq,hs⟩:=hs;simp only[azH,azN]at aq;obtain⟨⟨gZ,dP⟩,ux⟩:=aq;obtain rfl:h5=sz:=azR gZ;have jv:=h1.gK aH;obtain⟨cx,cap,v1,hR,jV⟩:=jv.slice;have adF:l≠[]:=axv;obtain⟨b,off,vs,rfl,hw,ay,aw⟩:=jV adF;have aB:=axs;have rk:l[n.toNat]?=some (l.getD n.toNat .dO):=axu;have Nu:=Nt hw rk;refine p.value aY bp (v:=.pointer (some ⟨b,off+n.toNat*h5,none⟩)) ?_ (.ck (.d _ _ ?_)) hs
    .simp[execOp,bu,v1,v2,Instr.indexAt,asIntOf,azP,azU,azS,eB hu,aAa (And.intro dP ux),jE aQ,aAC]
    .have:=Rd.eY (w:=w) (G:=G) b (off+n.toNat*h5) 0 ((vs.drop (n.toNat*h5)).take h5) _ (ay.sub _ _) ((aw.drop (n.toNat*h5)).take h5);simp_all
   .exact hs.elim
 .exact hs.elim
def aAP:=@List.take_of_length_le
def az7:=@cond_false
def aAc:=@if_neg
def aAl:=@Nat.mul_le_mul_right
def aAL:=@Option.map_some
def azF:=@Nat.zero_le
def aBY:=@Nat.sub_self
def aBi:=@List.map_toArray
def aAh:=@List.map_cons
def aA8:=@List.map_nil
theorem ax5(h:p:=by grind[cf.length]):p:=h
theorem ayT(h:p:=by rw[aBD];exact .eY _ _ _ _ _ ay aw):p:=h
theorem azg(h:p:=by simp[Builtin.len_,v1,eB hu,azP,goInt]):p:=h
theorem Hn{sz:Nat}:∀(n:Nat) {q:List D},(∀d,d∈q->d.cells.length=sz)->(q.drop n).flatMap D.cells=(q.flatMap D.cells).drop (n*sz)
 |0,_,_=>axt
 |n+1,[],_=>axt
 |n+1,d::q,h=>by
  have ak:=h d axt;rw[aBW,Hn n (λx ak=>h x (by simp[ak])),aAX,show(n+1)*sz=d.cells.length+n*sz by rw[ak,aAD];omega,List.drop_append];simp only[show d.cells.length+n*sz-d.cells.length=n*sz by omega];rw[aAY (show d.cells.length<=d.cells.length+n*sz by omega),aAO]
theorem Nv{sz:Nat}:∀(n:Nat) {q:List D},(∀d,d∈q->d.cells.length=sz)->(q.take n).flatMap D.cells=(q.flatMap D.cells).take (n*sz)
 |0,_,_=>axt
 |n+1,[],_=>axt
 |n+1,d::q,h=>by
  have ak:=h d axt;rw[aBE,aAX,Nv n (λx ak=>h x (by simp[ak])),aAX,show(n+1)*sz=d.cells.length+n*sz by rw[ak,aAD];omega,List.take_append];simp;rw[aAP (show d.cells.length<=d.cells.length+n*sz by omega)]
theorem adG{d:Nat}{x:Operand}{bx:O}{lo hi mx:Option Operand}{oj je Ho:Option O}{t t1 e hn:Nat}(p:bV n0 gl nt w G ρ lam a st)(aY:o.dst=some d)(bp:d<nt)(bu:o.op=.slice t x lo hi mx)(ak:bP P t1 x=some bx)
  (aH:nE P 0 lo=some oj) (hh:nE P 0 hi=some je) (hm:nE P 0 mx=some Ho) (atv:hi=none->mx=none)
  (hu:P.underlying t=some (.slice e)) (aQ:dp P e=some hn) (hs:step (bz P gl) gl (.aS d hn bx oj je Ho) st K):o.wp P a w (cy n0 gl nt w G ρ K) Q:=by
 obtain⟨e6,h1⟩:=dC ak p.rel;simp[step]at hs;split at hs
 .rename_i j off len adH sz aj;rw[aj]at h1;split at hs
  .rename_i l h m el yg em;obtain⟨aq,hs⟩:=hs;simp only[azH,azN]at aq;obtain⟨⟨⟨⟨iu,gZ⟩,dP⟩,ux⟩,Nw⟩:=aq;obtain rfl:sz=hn:=azR iu;have cc:=h1;generalize b8:a.eval x=v1 at cc;cases cc with
   |aS _ _ _ _ cap _ b cM hR rl=>
    have v7:=sM p aH el gZ;have v8:=sM p hh yg axs;have rm:=sM p hm em axs;simp at v7 v8 rm;obtain⟨m2,kM,hle,DH,Hp⟩:∃m2,vZ (mx.map a.eval) cap m2/\h.toNat<=m2/\m2<=cap/\m.toNat<=m2:=by
     rcases rm with⟨h0,h1⟩|⟨k,au⟩
     .exact⟨cap,.inl ⟨h0,rfl⟩,axs,azI _,axs⟩
     .exact⟨m.toNat,.inr ⟨k,au⟩,axs,axs,azI _⟩
    have ld:=yf (P:=P) (w:=w) (isSlice:=true) (cap:=cap) v7 v8 kM axs hle DH axu;refine p.value aY bp (v:=.slice (if m2=l.toNat then some ⟨b,off,none⟩else some ((⟨b,off,none⟩:Addr).add (l.toNat*sz))) (h.toNat-l.toNat) (m2-l.toNat)) ?_ (.ck ?_) hs
    .simp only[execOp,bu,b8,Instr.sliceAt,Instr.slice,azP,eB hu,azS,ld,azU,jE aQ];rfl
    .by_cases Nx:l=m
     .subst Nx;simp;have:h.toNat-l.toNat=0:=axs;rw[this];exact .d _ _ (.kK _ _ _)
     .simp[Nx,decide_false,az7];rw[aAc axs];simp[aAC];refine .aS _ _ _ _ _ _ _ cM axs ?_;obtain⟨c,E,fz,g',z2⟩:=rl;refine⟨c,E,fz,g',aAs ?_ z2⟩;have:m2*sz<=cap*sz:=aAl _ DH;rw[Nat.sub_mul];have:l.toNat*sz<=m2*sz:=aAl _ axs;omega
  .exact hs.elim
 .rename_i adI;revert hs;intro hs;split at hs
  .rename_i sz s aj;split at hs
   .rename_i l h m el yg em;obtain⟨aq,hs⟩:=hs;simp only[azH,azN]at aq;obtain⟨⟨⟨⟨iu,gZ⟩,dP⟩,ux⟩,Nw⟩:=aq;obtain rfl:sz=hn:=azR iu;have jv:=h1.gK aj;obtain⟨cx,cap,v1,hR,jV⟩:=jv.slice;have v7:=sM p aH el gZ;have v8:=sM p hh yg axs;have rm:=sM p hm em axs;simp at v7 v8 rm;obtain⟨m2,kM,hle,DH⟩:∃m2,vZ (mx.map a.eval) cap m2/\h.toNat<=m2/\m2<=cap:=by
     rcases rm with⟨h0,h1⟩|⟨k,au⟩
     .exact⟨cap,.inl ⟨h0,rfl⟩,axs,azI _⟩
     .exact⟨m.toNat,.inr ⟨k,au⟩,axs,axs⟩
    have ld:=yf (P:=P) (w:=w) (isSlice:=true) (cap:=cap) v7 v8 kM axs hle DH axu;have hval:Rd w G (.slice (if m2=l.toNat then cx else cx.map (·.add (l.toNat*sz))) (h.toNat-l.toNat) (m2-l.toNat)) (.list sz ((s.drop l.toNat).take (h.toNat-l.toNat))):=by
     by_cases hlen:h.toNat-l.toNat=0
     .rw[hlen,List.take_zero];exact .kK _ _ _
     .have cB:s≠[]:=by grind
      obtain⟨b,off,vs,rfl,hw,ay,aw⟩:=jV cB;have adJ:m2≠l.toNat:=axs;rw[aAc adJ];simp[aAL,aAC];have yh:((s.drop l.toNat).take (h.toNat-l.toNat)).flatMap D.cells=((s.flatMap D.cells).drop (l.toNat*sz)).take ((h.toNat-l.toNat)*sz):=by
       grind[Nv,Hn]
      refine .list b (off+l.toNat*sz) _ _ sz _ ((vs.drop (l.toNat*sz)).take ((h.toNat-l.toNat)*sz)) ?_ axs ?_ (ay.sub _ _) ?_
      .grind
      all_goals grind[cn.take,cn.drop]
    refine p.value aY bp (v:=.slice (if m2=l.toNat then cx else cx.map (·.add (l.toNat*sz))) (h.toNat-l.toNat) (m2-l.toNat)) ?_ (.ck (.d _ _ hval)) hs;simp[execOp,bu,v1,Instr.sliceAt,Instr.slice,azP,eB hu,azS,ld,azU,jE aQ]
   .exact hs.elim
  .exact hs.elim
theorem adK{d:Nat}{x:Operand}{bx:O}{hi mx:Operand}{t t1 e hn:Nat}(p:bV n0 gl nt w G ρ lam a st)(aY:o.dst=some d)(bp:d<nt)(bu:o.op=.slice t x none (some hi) (some mx))(ak:bP P t1 x=some bx)
  (hh:∃k,a.eval hi=.int k 0) (hm:∃k,a.eval mx=.int k 0)
  (hu:P.underlying t=some (.slice e)) (aQ:dp P e=some hn) (hs:step (bz P gl) gl (.em d bx) st K):o.wp P a w (cy n0 gl nt w G ρ K) Q:=by
 obtain⟨e6,h1⟩:=dC ak p.rel;simp[step]at hs;split at hs
 .rename_i j off len adH sz aj;rw[aj]at h1;have cc:=h1;generalize b8:a.eval x=v1 at cc;cases cc with
  |aS _ _ _ _ cap _ b cM hR rl=>
   obtain⟨bN,fe⟩:=hh;obtain⟨cz,hf⟩:=hm;have ld:=yf (P:=P) (w:=w) (isSlice:=true) (len:=len) (cap:=cap) (lo:=none) (hi:=some (a.eval hi)) (mx:=some (a.eval mx)) (l:=0) (h:=0) (m:=0) (.inl ⟨rfl,rfl⟩) (.inr ⟨bN,axu⟩) (.inr ⟨cz,axu⟩) (azI _) (azI _) (azF _) axt;refine p.value aY bp (v:=.slice (some ⟨b,off,none⟩) 0 0) ?_ (.ck (.nil _ _)) hs;simp[execOp,bu,b8,Instr.sliceAt,Instr.slice,azP,eB hu,azS,aBX,aAL,ld,azU,jE aQ,if_true,aBY]
 .rename_i adI;split at hs
  .rename_i sz s aj;have jv:=h1.gK aj;obtain⟨cx,cap,v1,hR,jV⟩:=jv.slice;obtain⟨bN,fe⟩:=hh;obtain⟨cz,hf⟩:=hm;have ld:=yf (P:=P) (w:=w) (isSlice:=true) (len:=s.length) (cap:=cap) (lo:=none) (hi:=some (a.eval hi)) (mx:=some (a.eval mx)) (l:=0) (h:=0) (m:=0) (.inl ⟨rfl,rfl⟩) (.inr ⟨bN,axu⟩) (.inr ⟨cz,axu⟩) (azI _) (azI _) (azF _) axt;refine p.value aY bp (v:=.slice cx 0 0) ?_ (.ck (.nil _ _)) hs;simp[execOp,bu,v1,Instr.sliceAt,Instr.slice,azP,eB hu,azS,aBX,aAL,ld,azU,jE aQ,if_true,aBY]
  .exact hs.elim
theorem Ny{d:Nat}{x:Operand}{bx:O}{t t1:Nat}{str:Bool}(p:bV n0 gl nt w G ρ lam a st)(aY:o.dst=some d)(bp:d<nt)(bu:o.op=.call {callee:=.builtin .len,args:= #[x],argTypes:= #[t]})(ak:bP P t1 x=some bx)
  (hu:if str then P.underlying t=some .string else ∃e,P.underlying t=some (.slice e)) (hs:step (bz P gl) gl (.mP d str bx) st K):o.wp P a w (cy n0 gl nt w G ρ K) Q:=by
 obtain⟨e6,h1⟩:=dC ak p.rel;have fC:∀n:Nat,(Builtin.len_ #[t] o.type #[a.eval x]).run P w=.ok (.int .i64 n) w->(execOp a.eval o).run P w=.ok (.value (.int .i64 n)) w:=by
  intro n az;simp[execOp,bu,resolve,azP,azU,azS,invoke,builtin,aBi,aAh,aA8,az]
 simp[step]at hs;split at hs
 .rename_i j off len cap sz aj;obtain⟨aq,hs⟩:=hs;cases str<;>simp at aq;obtain⟨e,hu⟩:=hu;rw[aj]at h1;have cc:=h1;cases b8:a.eval x<;>rw[b8]at cc<;>cases cc;exact p.value aY bp (fC len (by simp[Builtin.len_,b8,eB hu,azP,goInt])) (.ck (.d _ _ (.int _ _))) hs
 .rename_i s aj;obtain⟨aq,hs⟩:=hs;subst aq;rw[aj]at h1;obtain⟨s1,v1,rfl⟩:=h1.str;exact p.value aY bp (fC s1.size azg) (.ck (.d _ _ (.int _ _))) hs
 .split at hs
  .rename_i sz l aj;obtain⟨aq,hs⟩:=hs;cases str<;>simp at aq;obtain⟨e,hu⟩:=hu;have jv:=h1.gK aj;obtain⟨cx,cap,v1,hR,_⟩:=jv.slice;exact p.value aY bp (fC l.length azg) (.ck (.d _ _ (.int _ _))) hs
  .exact hs.elim
theorem adL{d i:Nat}{x:Operand}{bx:O}{t1:Nat}(p:bV n0 gl nt w G ρ lam a st)(aY:o.dst=some d)(bp:d<nt)(bu:o.op=.extract x i)(ak:bP P t1 x=some bx)
  (hs:step (bz P gl) gl (.ex d bx i) st K):o.wp P a w (cy n0 gl nt w G ρ K) Q:=by
 obtain⟨e6,h1⟩:=dC ak p.rel;simp[step]at hs;split at hs
 .rename_i vs aj;obtain⟨aq,hs⟩:=hs;rw[aj]at h1;have cc:=h1;cases b8:a.eval x<;>rw[b8]at cc<;>cases cc;rename_i us lf;have aB:i<vs.length:=axu;have sN:i<us.length:=ax5;have aE:(⟨us⟩:Array Value)[i]?=some us[i]:=axt;refine p.value aY bp (v:=us[i]) ?_ (.ck ?_) hs
  .grind[execOp,Instr.extract,Sem.run_pure]
  grind[cf.get]
 .exact hs.elim
theorem adM{d f:Nat}{x:Operand}{bx:O}{t t1 n:Nat}{fs:Array Field}{gN:Field}(p:bV n0 gl nt w G ρ lam a st)(aY:o.dst=some d)(bp:d<nt)(bu:o.op=.fieldAddr t x f)(ak:bP P t1 x=some bx)
  (hu:P.underlying t=some (.struct fs)) (bm:fs[f]?=some gN) (aQ:dp P gN.type=some n) (gq:0<n) (hs:step (bz P gl) gl (.gF d bx gN.offset) st K):o.wp P a w (cy n0 gl nt w G ρ K) Q:=by
 obtain⟨e6,h1⟩:=dC ak p.rel;have fC:∀b off,a.eval x=.pointer (some ⟨b,off,none⟩)->(execOp a.eval o).run P w=.ok (.value (.pointer (some ⟨b,off+gN.offset,none⟩))) w:=by
  intro b off hv;have az:¬n=0:=axs;simp_all[execOp,Instr.fieldAt,eB,Instr.sureAddr,fieldPlace,jE,aAC]
 simp[step]at hs;split at hs
 .rename_i i off aj;rw[aj]at h1;have cc:=h1;cases b8:a.eval x<;>rw[b8]at cc<;>cases cc;rename_i b aq;exact p.value aY bp (fC _ _ b8) (.ck (.ptr _ _ _ aq)) hs
 .rename_i s off aj;rw[aj]at h1;obtain⟨b,aq,b8⟩:=h1;exact p.value aY bp (fC _ _ b8) (show de w G ρ lam _ _ (.dT s (off+gN.offset))from⟨b,aq,rfl⟩) hs
 .rename_i cs off aj;rw[aj]at h1;have cc:=h1.iq;cases b8:a.eval x<;>rw[b8]at cc<;>cases cc;rename_i b base vs ay aw;exact p.value aY bp (fC _ _ b8) (.ck (.d _ _ ayT)) hs
 .exact hs.elim
theorem adN{d:Nat}{x i:Operand}{bx iI:O}{t t1 t2 e len n:Nat}(p:bV n0 gl nt w G ρ lam a st)(aY:o.dst=some d)(bp:d<nt)(bu:o.op=.indexAddr t x i)(ak:bP P t1 x=some bx)(hi:bP P t2 i=some iI)
  (hu:P.underlying t=some (.array len e)) (aQ:dp P e=some n) (hs:step (bz P gl) gl (.aa d bx iI len n) st K):o.wp P a w (cy n0 gl nt w G ρ K) Q:=by
 obtain⟨e6,h1⟩:=dC ak p.rel;obtain⟨iX,h2⟩:=dC hi p.rel;simp[step]at hs;split at hs
 .rename_i k z aD;rw[aD]at h2;have v2:=h2.int;obtain⟨aq,hs⟩:=hs;simp at aq;have fC:∀b off,a.eval x=.pointer (some ⟨b,off,none⟩)->(execOp a.eval o).run P w=.ok (.value (.pointer (some ⟨b,off+z.toNat*n,none⟩))) w:=by
   intro b off hv;simp[execOp,bu,Instr.indexAt,asIntOf,v2,azP,azU,eB hu,azS,hv,Instr.sureAddr,aBg,aAa (And.intro aq.1 aq.2),jE aQ,aAC]
  split at hs
  .rename_i j off aj;rw[aj]at h1;have cc:=h1;cases b8:a.eval x<;>rw[b8]at cc<;>cases cc;rename_i b eW;exact p.value aY bp (fC _ _ b8) (.ck (.ptr _ _ _ eW)) hs
  .rename_i s off aj;rw[aj]at h1;obtain⟨b,eW,b8⟩:=h1;exact p.value aY bp (fC _ _ b8) (show de w G ρ lam _ _ (.dT s (off+z.toNat*n))from⟨b,eW,rfl⟩) hs
  .rename_i cs off aj;rw[aj]at h1;have cc:=h1.iq;cases b8:a.eval x<;>rw[b8]at cc<;>cases cc;rename_i b base vs ay aw;exact p.value aY bp (fC _ _ b8) (.ck (.d _ _ ayT)) hs
  .exact hs.elim
 .exact hs.elim
theorem adO{d:Nat}{x:Operand}{bx:O}{t1:Nat}(p:bV n0 gl nt w G ρ lam a st)(aY:o.dst=some d)(bp:d<nt)(bu:o.op=.nilCheck x)(ak:bP P t1 x=some bx)
  (hs:step (bz P gl) gl (.vK d bx) st K):o.wp P a w (cy n0 gl nt w G ρ K) Q:=by
 obtain⟨e6,h1⟩:=dC ak p.rel;simp[step]at hs;split at hs
 .rename_i i off aj;rw[aj]at h1;have cc:=h1;cases b8:a.eval x<;>rw[b8]at cc<;>cases cc;rename_i b aq;exact p.value aY bp axM (.ck (.ptr _ _ _ aq)) hs
 .rename_i s off aj;rw[aj]at h1;obtain⟨b,aq,b8⟩:=h1;exact p.value aY bp axM (show de w G ρ lam _ _ (.dT s off)from⟨b,aq,rfl⟩) hs
 .rename_i cs off aj;rw[aj]at h1;have cc:=h1.iq;cases b8:a.eval x<;>rw[b8]at cc<;>cases cc;rename_i b base vs ay aw;exact p.value aY bp axM (.ck (.d _ _ (.eY _ _ _ _ _ ay aw))) hs
 .rename_i f aj;rw[aj]at h1;have cc:=h1.iq;cases b8:a.eval x<;>rw[b8]at cc<;>cases cc;exact p.value aY bp axM (.ck (.d _ _ (.fn _))) hs
 .rename_i f fj cs aj;rw[aj]at h1;have cc:=h1;cases b8:a.eval x<;>rw[b8]at cc<;>cases cc;rename_i us vs av aZ;exact p.value aY bp axM (.ck (.func _ _ _ _ _ av aZ)) hs
 .exact hs.elim
theorem Nz{d:Nat}{x y:Operand}{bx y':O}{lt:Bool}{ts:Array TypeId}{t1 t2:Nat}(p:bV n0 gl nt w G ρ lam a st)(aY:o.dst=some d)(bp:d<nt)(bu:o.op=.call {callee:=.builtin (if lt then .min else .max),args:= #[x,y],argTypes:=ts})(ak:bP P t1 x=some bx)(hy:bP P t2 y=some y')
  (hs:step (bz P gl) gl (.p2 d lt bx y') st K):o.wp P a w (cy n0 gl nt w G ρ K) Q:=by
 obtain⟨e6,h1⟩:=dC ak p.rel;obtain⟨iX,h2⟩:=dC hy p.rel;simp[step]at hs;split at hs
 .rename_i k m k' n aj aD;rw[aj]at h1;rw[aD]at h2;have v1:=h1.int;have v2:=h2.int;obtain⟨lL,hs⟩:=hs;refine p.value aY bp (v:=.int k (cond (cond lt (decide (n<m)) (decide (m<n))) n m)) ?_ (.ck (.d _ _ (.int _ _))) hs;cases lt
  .simp only[execOp,bu,resolve,azP,azU,azS,invoke,builtin,aBi,aAh,aA8,v1,v2,aAw,az4,Builtin.max_,List.foldlM_cons,List.foldlM_nil,Builtin.max2];simp
  .simp only[execOp,bu,resolve,azP,azU,azS,invoke,builtin,aBi,aAh,aA8,v1,v2,if_true,Builtin.min_,List.foldlM_cons,List.foldlM_nil,Builtin.min2];simp
 .exact hs.elim
end
theorem axr(h:p:=by kernel_rfl):p:=h
theorem NA:∀a b:List UInt8,Dm a b=Lib.compareBytes a b
 |[],[]=>rfl
 |[],_::_=>rfl
 |_::_,[]=>rfl
 |a::x,b::y=>by
  simp[Dm,Lib.compareBytes,NA x y];by_cases h:a<b
  .simp[h]
  .by_cases h2:b<a<;>simp[h,h2]
theorem adP{fn:Func}(h:fn.name= "internal/bytealg.abigen_runtime_cmpstring")(bb:fn.origin= ""):Extern.findNext fn=none/\Extern.find fn=some Extern.BytealgCompare.compare:=by
 constructor
 .unfold Extern.findNext;have h1:Extern.allNextRows.lookup "internal/bytealg.abigen_runtime_cmpstring" =none:=axr;have h2:Extern.allNextRows.lookup "" =none:=axr;grind
 .unfold Extern.find;have h1:Extern.allGenericRows.lookup "internal/bytealg.abigen_runtime_cmpstring" =none:=axr;have h2:Extern.allTypedRows.lookup "internal/bytealg.abigen_runtime_cmpstring" =none:=axr;have av:Extern.allRows.lookup "internal/bytealg.abigen_runtime_cmpstring" =some Extern.BytealgCompare.compare:=axr;grind
section
variable {P:Program}{gl:Nat->List D}{n0 nt:Nat}{a:Act}{w w':World}{G G':bJ}{ρ ρ':List Nat}{lam lam':Nat->Option Nat}{st aU:af}{K:af->Prop}{o:Oper}{Q:Exit->Act->World->Prop}
theorem adQ{d f k:Nat}{c:Call}{x y:Operand}{bx y':O}{t1 t2:Nat}(p:bV n0 gl nt w G ρ lam a st)(aY:o.dst=some d)(bp:d<nt)(bu:o.op=.call c)(ay:c.callee=.value (.func f))(br:c.args.toList=[x,y])
  (he:G6 P f=some k) (ak:bP P t1 x=some bx) (hy:bP P t2 y=some y') (hs:step (bz P gl) gl (.b7 d k bx y') st K):o.wp P a w (cy n0 gl nt w G ρ K) Q:=by
 obtain⟨e6,h1⟩:=dC ak p.rel;obtain⟨iX,h2⟩:=dC hy p.rel;simp[step]at hs;split at hs
 .rename_i s1 s2 aj aD;rw[aj]at h1;rw[aD]at h2;obtain⟨bq,v1,rfl⟩:=h1.str;obtain⟨aR,v2,rfl⟩:=h2.str;split at hs
  .rename_i r aw;unfold G6 at he;split at he
   .rename_i fn wc;split at he
    .rename_i aq;simp at he;subst he;simp[G3,azJ]at aw;subst aw;simp at aq;obtain⟨⟨aq,sL⟩,bb⟩:=aq;obtain⟨f1,f2⟩:=adP sL bb;refine p.value aY bp (v:=.int .i64 (Lib.compareBytes bq.data.toList aR.data.toList)) ?_ (.ck (.d _ _ (by rw[<-NA];exact .int _ _))) hs;have rq:(c.args.map a.eval)= #[.string bq,.string aR]:=by
      grind[Array.toList_map]
     have bm:a.eval (.func f)=.func (.func f) #[] #[]:=rfl;simp_all[execOp,resolve,Deferred.ofValue,invoke,run_callFunc_extern,Lib.run_compareString]
    simp_all
   simp_all
  .exact hs.elim
 .exact hs.elim
end
end Go.aJ
