/- Part of ranges_said. -/
import Derived.Deep.MidRow
import Derived.RangeFuncSeq
import Derived.Lib.SmallJoins
import Derived.Lib.UnsafeStr
import Derived.Lib.Bytealg
set_option linter.defProp false
set_option maxRecDepth 100000
set_option maxHeartbeats 8000000
set_option linter.unusedSimpArgs false
set_option linter.unusedVariables false
namespace Go.aH
variable {p:Prop}
inductive D where
 |bool (b:Bool)
 |int (k:IntKind) (n:Int)
 |str (s:List UInt8)
 |list (sz:Nat) (l:List D)
 |agg (cs:List D)
 |dP|hS|ll|iy
 |fn (f:Nat)
 |e1 (cs:List D) (off:Nat)
 |iface (t:Nat) (x:D)
 |ln (ks:List D) (vs:List D)
 |hT
 deriving Inhabited,Repr
inductive fc where
 |d (x:D)
 |nil (sz:Nat)
 deriving Inhabited,Repr
inductive ah where
 |undef
 |d (x:D)
 |own (sz:Nat) (l:List D)
 |dT (t off:Nat)
 |ptr (i off:Nat)
 |map (i:Nat)
 |aN (i off len cap sz:Nat)
 |func (f:Nat) (first gI:List ah)
 |agg (cs:List ah)
 |tuple (vs:List ah)
 |fY (i:Nat)
 |gJ (sz:Nat)
 |raw (sz n:Nat) (cs:List fc)
 deriving Inhabited,Repr
inductive b9 where
 |box (cs:List ah)
 |map (es:List (D×ah))
 |dead
 |hU (t e:Nat) (bs:List UInt8)
 |rE (m:Option Nat)
 deriving Inhabited,Repr
abbrev aU:=List b9
inductive O where
 |t (n:Nat)
 |c (v:ah)
 |g (n:Nat)
 deriving Inhabited,Repr
inductive I where
 |cV (d:Nat) (x:O)
 |hj (d s:Nat)
 |e2 (d:Nat) (x:O)
 |dU (d:Nat) (c a b:O)
 |kN (d:Nat) (z:List ah)
 |fV (d:Nat) (x:O) (n:Nat)
 |bp (d:Nat) (z:List ah)
 |au (d:Nat) (x:O) (n:Nat)
 |wE (d:Nat) (z:List ah) (ps:List (Nat×Nat×O))
 |li (d:Nat) (sz:Nat) (xs:List O)
 |hX (d:Nat) (a:O) (t off n:Nat) (ai:Bool)
 |lt (d:Nat) (a:O) (t off:Nat)
 |ls (a:O) (t off:Nat) (x:O) (n:Nat)
 |aI (d:Nat) (a:O) (n:Nat) (ai:Bool)
 |aE (d:Nat) (a:O)
 |hs (a:O) (x:O) (n:Nat)
 |wF (d:Nat) (x:O)
 |bi (d:Nat) (op:BinOp) (x y:O)
 |eq (d:Nat) (neg ai:Bool) (ks:List Nat) (x y:O)
 |un (d:Nat) (op:UnOp) (x:O)
 |ci (d:Nat) (k:IntKind) (x:O)
 |h' (d:Nat) (x:O)
 |bs (d:Nat) (x:O)
 |gK (d:Nat) (x:O) (off:Nat)
 |fd (d:Nat) (x:O) (off n:Nat) (ai:Bool)
 |lQ (d:Nat) (x i:O) (sz:Nat)
 |aa (d:Nat) (x i:O) (len sz:Nat)
 |mz (d:Nat) (x i:O)
 |ss (d:Nat) (x:O) (lo hi:Option O)
 |aN (d sz:Nat) (x:O) (lo hi mx:Option O)
 |wG (d:Nat) (f:Nat) (first gI:List O)
 |dH (d:Option Nat) (f:O) (args:List O)
 |ap (d:Nat) (s:Nat) (x:O) (sz b1:Nat)
 |ni (d:Nat) (str:Bool) (x:O)
 |ex (d:Nat) (x:O) (i:Nat)
 |mm (d:Nat)
 |aJ (d:Nat) (ai:Bool) (ks:List Nat) (m k:O) (z:ah) (ok:Bool)
 |oz (ai:Bool) (ks:List Nat) (m k x:O)
 |qm (d:Nat) (lt:Bool) (x y:O)
 |mA (d:Nat) (neg:Bool) (ho:Nat) (x:O)
 |cr (d:Nat) (k:Nat) (x y:O)
 |bad (d:Option Nat)
 |lR (d:Option Nat)
 |kO (d s z i:Nat) (x:O) (sz b1:Nat)
 |nj (d s:Nat) (x:O) (sz b1:Nat)
 |nk (d s:Nat) (x:O) (sz b1:Nat)
 |rF (d:Nat) (sz:Nat) (xs:List O)
 |mk (d sz:Nat) (z:List ah) (n:O) (b1:Nat)
 |oA (d:Option Nat) (x:O) (z:List ah)
 |wH (d:Nat) (x i:O) (len sz:Nat) (ai:Bool)
 |ak (d t e:Nat)
 |aO (d:Nat) (a:O) (n:Nat)
 |nn (d:Nat) (own:Bool) (x:O)
 |so (d s sz:Nat) (lo:O)
 |pg (d:Nat) (x:O)
 deriving Inhabited,Repr
structure cf where
 g:Option (Nat×Bool)
 i:I
 deriving Inhabited,Repr
inductive eG where
 |skip
 |ops (l:List cf)
 |any (l:List cf) (dy:List (List Nat))
 |bad
 |seq (a b:eG)
 |cond (c:O) (a b:eG)
 |block (i:Nat) (b:eG)
 |loop (ts bs:List Nat) (b:eG)
 |ia (x:O) (ps:List Nat) (a b:eG)
 |exit (i:Nat)
 |ret
 deriving Inhabited,Repr
inductive oB where
 |t (t:Nat)
 |o (t:Nat)
 |b (t n:Nat) (ai:Bool)
 |h (t n:Nat) (ai:Bool)
 deriving Inhabited,Repr
structure aX where
 code:eG
 res:List oB
 deriving Inhabited,Repr
def dk(i:Nat):List Nat->Bool
 |[]=>false
 |j::l=>cond (Nat.beq i j) true (dk i l)
def I.dst:I->Option Nat
 |.cV d _|.hj d _|.e2 d _|.dU d _ _ _|.kN d _|.fV d _ _|.bp d _|.au d _ _|.wE d _ _|.li d _ _|.hX d _ _ _ _ _|.lt d _ _ _
 |.aI d _ _ _|.aE d _|.wF d _|.bi d _ _ _|.eq d _ _ _ _ _|.un d _ _|.ci d _ _|.h' d _|.bs d _|.gK d _ _|.fd d _ _ _ _|.lQ d _ _ _
 |.aa d _ _ _ _|.mz d _ _|.ss d _ _ _|.aN d _ _ _ _ _|.wG d _ _ _|.ap d _ _ _ _|.ni d _ _|.ex d _ _|.mm d|.aJ d _ _ _ _ _ _|.qm d _ _ _|.mA d _ _ _|.cr d _ _ _|.kO d _ _ _ _ _ _|.nj d _ _ _ _|.nk d _ _ _ _|.rF d _ _|.mk d _ _ _ _|.wH d _ _ _ _ _|.ak d _ _|.aO d _ _|.nn d _ _|.so d _ _ _|.pg d _=>some d
 |.dH d _ _|.bad d|.lR d|.oA d _ _=>d
 |.ls .. |.hs .. |.oz .. =>none
def O.slots:O->List Nat
 |.t n=>[n]
 |_=>[]
def yI:Option O->List Nat
 |some x=>x.slots
 |none=>[]
def qn(l:List O):List Nat:=l.flatMap O.slots
def I.rd:I->List Nat
 |.cV _ x|.e2 _ x|.fV _ x _|.au _ x _|.hX _ x _ _ _ _|.lt _ x _ _|.aI _ x _ _|.aE _ x|.wF _ x|.un _ _ x|.ci _ _ x|.h' _ x|.bs _ x|.gK _ x _|.fd _ x _ _ _|.ni _ _ x|.ex _ x _
 |.mA _ _ _ x=>x.slots
 |.hj _ s=>[s]
 |.dU _ c a b=>c.slots++a.slots++b.slots
 |.kN _ _|.bp _ _|.mm _=>[]
 |.wE _ _ ps=>ps.flatMap λq=>q.2.2.slots
 |.li _ _ xs=>qn xs
 |.ls a _ _ x _|.hs a x _=>a.slots++x.slots
 |.bi _ _ x y|.eq _ _ _ _ x y|.lQ _ x y _|.aa _ x y _ _|.mz _ x y|.qm _ _ x y|.cr _ _ x y=>x.slots++y.slots
 |.ss _ x lo hi=>x.slots++yI lo++yI hi
 |.aN _ _ x lo hi mx=>x.slots++yI lo++yI hi++yI mx
 |.wG _ _ xs ws=>qn xs++qn ws
 |.dH _ f xs=>f.slots++qn xs
 |.ap _ s x _ _=>s::x.slots
 |.aJ _ _ _ m k _ _=>m.slots++k.slots
 |.oz _ _ m k x=>m.slots++k.slots++x.slots
 |.bad _|.lR _|.ak _ _ _=>[]
 |.aO _ x _|.nn _ _ x|.pg _ x=>x.slots
 |.so _ s _ x=>s::x.slots
 |.kO _ s z i x _ _=>s::z::i::x.slots
 |.nj _ s x _ _|.nk _ s x _ _=>s::x.slots
 |.rF _ _ xs=>qn xs
 |.mk _ _ _ n _=>n.slots
 |.oA _ x _=>x.slots
 |.wH _ x i _ _ _=>x.slots++i.slots
def I.hw(i:I):List Nat:=i.dst.toList++match i with
 |.hj _ s|.ap _ s _ _ _|.nj _ s _ _ _|.nk _ s _ _ _|.kO _ s _ _ _ _ _|.so _ s _ _=>[s]
 |.pg _ x=>x.slots
 |_=>[]
def I.kl:I->List Nat
 |.e2 _ x|.ls _ _ _ x _|.hs _ x _|.nn _ _ x=>x.slots
 |_=>[]
def I.wr(i:I):List Nat:=i.hw++i.kl
def I.oC:I->List Nat
 |.kN d _|.fV d _ _=>[d]
 |.hX _ _ t _ _ _|.lt _ _ t _|.ls _ t _ _ _=>[t]
 |_=>[]
def I.gO:I->List Nat
 |.kN d _|.fV d _ _=>[d]
 |.lt _ _ t _|.ls _ t _ _ _=>[t]
 |_=>[]
def I.rs:I->Bool
 |.bp .. |.au .. |.aI .. |.aE .. |.hs .. |.mm .. |.aJ .. |.oz .. |.dH .. |.ap .. |.nj .. |.nk .. |.rF .. |.mk .. |.oA .. |.ak .. |.aO .. |.nn .. |.pg .. =>true
 |_=>false
def I.ws:I->Bool
 |.bp .. |.au .. |.aE .. |.hs .. |.mm .. |.oz .. |.dH .. |.ap .. |.nj .. |.nk .. |.rF .. |.mk .. |.oA .. |.ak .. |.aO .. |.nn .. |.pg .. =>true
 |_=>false
def cf.rd(g:cf):List Nat:=(match g.g with|some (s,_)=>[s]|none=>[])++g.i.rd
def qo(a b:List Nat):Bool:=a.all λx=>!dk x b
def yJ(x y:cf):Bool:=
 qo x.i.hw (y.rd++y.i.hw)&&qo y.i.hw (x.rd++x.i.hw)&&qo x.i.gO (y.i.oC++y.i.gO)&&qo y.i.gO x.i.oC
def DS(x y:cf):Bool:=
 qo x.i.kl (y.rd++y.i.kl)&&qo y.i.kl x.rd&&!(x.i.ws&&y.i.rs)&&!(y.i.ws&&x.i.rs)
structure ag where
 aR:Nat->ah
 bH:Nat->Option (List ah)
 s:aU
 deriving Inhabited
def cC{α:Type}(f:Nat->α)(k:Nat)(v:α):Nat->α:=λj=>cond (Nat.beq j k) v (f j)
def ag.set(st:ag)(k:Nat)(v:ah):ag:={st with aR:=cC st.aR k v}
def ag.dI(st:ag)(k:Option Nat)(v:ah):ag:=match k with|some k=>st.set k v|none=>st
def ag.dX(st:ag)(k:Nat)(v:List ah):ag:={st with bH:=cC st.bH k (some v)}
def iz(sz:Nat):List D->ah
 |[]=>.gJ sz
 |d::l=>.own sz (d::l)
def rG:ah->Bool
 |.own _ _|.gJ _|.raw _ _ _=>true
 |_=>false
def snap:ah->ah
 |.own sz l=>.d (.list sz l)
 |.gJ sz=>.d (.list sz [])
 |.raw _ _ _=>.undef
 |v=>v
def gP:ah->ah
 |.own sz []=>.own sz []
 |v=>snap v
def A1:ah->Option D
 |.d x=>some x
 |.own sz l=>some (.list sz l)
 |.gJ sz=>some (.list sz [])
 |_=>none
def jz:List ah->Option (List D)
 |[]=>some []
 |v::l=>match A1 v with
  |some x=>match jz l with
   |some xs=>some (x::xs)
   |none=>none
  |none=>none
def cT:ah->ah
 |.own sz l=>.d (.list sz l)
 |.gJ sz=>.d (.list sz [])
 |.raw _ _ _=>.undef
 |.agg cs=>match jz cs with
  |some ds=>.d (.agg ds)
  |none=>.agg (cs.map snap)
 |v=>v
def hq(v:ah):Option D:=match cT v with|.d x=>some x|_=>none
def D.cells:D->List D
 |.agg cs=>cs
 |x=>[x]
def jA:D->Bool
 |.agg _=>false
 |_=>true
def fe:Bool->D->Bool
 |true,.agg _=>true
 |false,.agg _=>false
 |b,_=>!b
def cellsOf:ah->List ah
 |.agg cs=>cs
 |.d (.agg cs)=>cs.map .d
 |v=>[v]
def wI:ah->Bool
 |.agg _|.d (.agg _)=>true
 |_=>false
def gk(b:UInt8):D:=.int .u8 b.toNat
def hr:ah->Option (Nat×List D)
 |.d (.list sz l)=>some (sz,l)
 |.own sz l=>some (sz,l)
 |.gJ sz=>some (sz,[])
 |_=>none
def wJ:ah->Option (Nat×List D)
 |.aN _ _ _ _ sz=>some (sz,[.dP])
 |.d (.list sz l)=>some (sz,l)
 |.own sz l=>some (sz,l)
 |.gJ sz=>some (sz,[])
 |_=>none
def s5:ah->Option (Nat×List D)
 |.d (.list sz l)=>some (sz,l)
 |.own sz l=>some (sz,l)
 |.gJ sz=>some (sz,[])
 |.d (.str s)=>some (1,s.map gk)
 |_=>none
def refs:Nat->ah->List Nat
 |_,.ptr i _=>[i]
 |_,.map i=>[i]
 |_,.aN i _ _ _ _=>[i]
 |n+1,.func _ a c=>(a++c).flatMap (refs n)
 |n+1,.agg cs=>cs.flatMap (refs n)
 |n+1,.tuple cs=>cs.flatMap (refs n)
 |_,_=>[]
def depth:Nat:=5
def b9.refs:b9->List Nat
 |.box cs=>cs.flatMap (aH.refs depth)
 |.map es=>es.flatMap λe=>aH.refs depth e.2
 |.rE m=>m.toList
 |_=>[]
def ren(f:Nat->Nat):Nat->ah->ah
 |_,.ptr i o=>.ptr (f i) o
 |_,.map i=>.map (f i)
 |_,.aN i o l c z=>.aN (f i) o l c z
 |n+1,.func g a c=>.func g (a.map (ren f n)) (c.map (ren f n))
 |n+1,.agg cs=>.agg (cs.map (ren f n))
 |n+1,.tuple cs=>.tuple (cs.map (ren f n))
 |0,.func _ _ _=>.undef
 |0,.agg _=>.undef
 |0,.tuple _=>.undef
 |_,.undef=>.undef
 |_,.d x=>.d x
 |_,.own sz l=>.own sz l
 |_,.gJ sz=>.gJ sz
 |_,.raw sz n cs=>.raw sz n cs
 |_,.dT _ _=>.undef
 |_,.fY _=>.undef
def b9.ren(f:Nat->Nat):b9->b9
 |.box cs=>.box (cs.map (aH.ren f depth))
 |.map es=>.map (es.map λe=>(e.1,aH.ren f depth e.2))
 |.rE m=>.rE (m.map f)
 |o=>o
def lp(i:Nat):List Nat->Nat
 |[]=>0
 |j::l=>cond (Nat.beq i j) 0 (lp i l+1)
def reach(s:aU):Nat->List Nat->List Nat->List Nat
 |0,_,acc=>acc
 |_+1,[],acc=>acc
 |n+1,i::todo,acc=>cond (dk i acc) (reach s n todo acc) (reach s n (todo++(s.getD i .dead).refs) (acc++[i]))
def nodupB:List Nat->Bool
 |[]=>true
 |i::l=>!dk i l&&nodupB l
def closed(s:aU)(ids:List Nat)(args:List ah):Bool:=
 (args.flatMap (refs depth)).all (λi=>dk i ids)&&ids.all λi=>(s.getD i .dead).refs.all λj=>dk j ids
def back(ids:List Nat)(len:Nat)(i:Nat):Nat:=match ids[i]? with|some j=>j|none=>len+(i-ids.length)
def merge(s:aU):List Nat->List b9->aU
 |_,[]=>s
 |[],l=>s++l
 |i::ids,o::l=>merge (s.set i o) ids l
def HA(n:Nat)(l:List Nat):Bool:=l.all λi=>Nat.blt i n
def fA(m:Nat):Nat->ah->Bool
 |_,.ptr i _=>Nat.blt i m
 |_,.map i=>Nat.blt i m
 |_,.aN i _ _ _ _=>Nat.blt i m
 |n+1,.func _ a c=>(a++c).all (fA m n)
 |n+1,.agg cs=>cs.all (fA m n)
 |n+1,.tuple cs=>cs.all (fA m n)
 |0,.func _ _ _=>false
 |0,.agg _=>false
 |0,.tuple _=>false
 |_,.fY i=>Nat.blt i m
 |_,_=>true
def b9.fA(m:Nat):b9->Bool
 |.box cs=>cs.all (aH.fA m depth)
 |.map es=>es.all λe=>aH.fA m depth e.2
 |.rE k=>k.all λi=>Nat.blt i m
 |_=>true
def gc(n:Nat)(r:ah)(s:aU):aU:=
 cond (fA n depth r&&(s.take n).all (b9.fA n)) (s.take n) s
def ea:Nat->ah->Bool
 |_,.dT _ _=>false
 |_,.undef=>false
 |_,.fY _=>false
 |n+1,.func _ a c=>(a++c).all (ea n)
 |n+1,.agg cs=>cs.all (ea n)
 |n+1,.tuple cs=>cs.all (ea n)
 |0,.func _ _ _=>false
 |0,.agg _=>false
 |0,.tuple _=>false
 |_,_=>true
def s6:ah->Bool
 |.undef|.dT _ _|.agg _|.tuple _|.d (.agg _)|.fY _=>false
 |_=>true
def kn(v:ah):Bool:=s6 v&&ea depth v
def cA:List Nat->List D->List D->Option Bool
 |[],[],[]=>some true
 |k::ks,a::x,b::y=>match k,a,b with
  |0,.bool p,.bool q=>(cA ks x y).map ((p==q)&& ·)
  |1,.int i p,.int j q=>cond (decide (i=j)) ((cA ks x y).map (decide (p=q)&& ·)) none
  |2,.str p,.str q=>(cA ks x y).map (decide (p=q)&& ·)
  |_,_,_=>none
 |_,_,_=>none
def bytesLess:List UInt8->List UInt8->Bool
 |_,[]=>false
 |[],_::_=>true
 |a::x,b::y=>decide (a<b)||(decide (a=b)&&bytesLess x y)
def A2(op:BinOp)(k:IntKind)(a b:Int):Option (Bool×D):=
 match op with
 |.add=>some (true,.int k (k.wrap (a+b)))
 |.sub=>some (true,.int k (k.wrap (a-b)))
 |.mul=>some (true,.int k (k.wrap (a*b)))
 |.quo=>some (decide (b≠0),.int k (k.wrap (a.tdiv b)))
 |.rem=>some (decide (b≠0),.int k (a.tmod b))
 |.and=>some (true,.int k (k.wrap (BitVec.ofInt k.bits a&&& BitVec.ofInt k.bits b).toNat))
 |.or=>some (true,.int k (k.wrap (BitVec.ofInt k.bits a|||BitVec.ofInt k.bits b).toNat))
 |.xor=>some (true,.int k (k.wrap (BitVec.ofInt k.bits a^^^BitVec.ofInt k.bits b).toNat))
 |.andNot=>some (true,.int k (k.wrap (BitVec.ofInt k.bits a&&& ~~~ BitVec.ofInt k.bits b).toNat))
 |.eql=>some (true,.bool (decide (a=b)))
 |.neq=>some (true,.bool (!decide (a=b)))
 |.lss=>some (true,.bool (decide (a<b)))
 |.leq=>some (true,.bool (decide (a<=b)))
 |.gtr=>some (true,.bool (decide (b<a)))
 |.geq=>some (true,.bool (decide (b<=a)))
 |_=>none
def wK(op:BinOp)(k:IntKind)(a b:Int):Option D:=
 match op with
 |.shl=>some (.int k (k.wrap (a*2^(min b.toNat k.bits))))
 |.shr=>some (.int k (a.fdiv (2^(min b.toNat k.bits))))
 |_=>none
def HB:Nat:=4611686018427387904
def A3(op:BinOp)(a b:List UInt8):Option (Bool×D):=
 match op with
 |.add=>some (decide (a.length+b.length<=HB),.str (a++b))
 |.eql=>some (true,.bool (decide (a=b)))
 |.neq=>some (true,.bool (!decide (a=b)))
 |.lss=>some (true,.bool (bytesLess a b))
 |.leq=>some (true,.bool (bytesLess a b||decide (a=b)))
 |.gtr=>some (true,.bool (!(bytesLess a b||decide (a=b))))
 |.geq=>some (true,.bool (!bytesLess a b))
 |_=>none
def DT:List UInt8->List UInt8->Int
 |[],[]=>0
 |[],_::_=> -1
 |_::_,[]=>1
 |a::fp,b::bs=>cond (decide (a<b)) (-1) (cond (decide (b<a)) 1 (DT fp bs))
def HC:Nat->List UInt8->List UInt8->Option D
 |0,a,b=>some (.int .i64 (DT a b))
 |_,_,_=>none
inductive aB where
 |normal|exit (i:Nat)|ret
 deriving Inhabited,Repr
structure mB(R:Type) where
 fail:R
 guard:Bool->R->R
 call:Nat->List ah->aU->(ah->aU->R)->R
 fix:(ag->(ag->R)->R)->ag->R
 both:R->R->R
 iter:Nat->(aX->R)->R
section
variable {R:Type}(A:mB R)(gl:Nat->List D)
def aL(st:ag):O->ah
 |.t n=>st.aR n
 |.c v=>v
 |.g n=>.d (.e1 (gl n) 0)
def auK(x:Option D):Option Nat:=match x with|some (.int _ (.ofNat n))=>some n|_=>none
def kP(f:Nat)(args:List ah)(s:aU)(K:ah->aU->R):R:=
 let ids:=reach s (s.length+s.length+8) (args.flatMap (refs depth)) [];let nT:=λi=>lp i ids;let lq:=back ids s.length;A.guard (HA s.length ids&&nodupB ids&&closed s ids args&&args.all (ea depth)) <|
 A.call f (args.map (ren nT depth)) (ids.map λi=>(s.getD i .dead).ren nT) λr s'=>
  A.guard (Nat.ble ids.length s'.length) <|
  K (ren lq depth r) (merge s ids (s'.map (b9.ren lq)))
def valOf(cs:List ah)(off n:Nat)(ai:Bool):ah:=
 cond ai (cT (.agg ((cs.drop off).take n))) (snap (cs.getD off .undef))
def putCells(cs:List ah)(off:Nat):List ah->List ah
 |[]=>cs
 |v::l=>putCells (cs.set off v) (off+1) l
def kill(st:ag):O->ag
 |.t s=>match st.aR s with
  |.own _ _|.gJ _|.raw _ _ _=>st.set s .undef
  |_=>st
 |_=>st
def pj(st:ag):List ah->List (Nat×Nat×O)->Option (List ah)
 |cs,[]=>some cs
 |cs,(off,n,x)::ps=>
  let vs:=cellsOf (cT (snap (aL gl st x)));cond (Nat.beq vs.length n&&Nat.ble (off+n) cs.length&&vs.all (ea depth)) (pj st (putCells cs off vs) ps) none
def jK(st:ag)(x:O):ah:=match x with
 |.c (.own sz [])=>.own sz []
 |x=>cT (snap (aL gl st x))
def elems(st:ag)(sz:Nat):List O->Option (List D)
 |[]=>some []
 |x::xs=>match hq (aL gl st x),elems st sz xs with
  |some d,some l=>cond (Nat.beq d.cells.length sz&&d.cells.all jA) (some (d::l)) none
  |_,_=>none
def bound(st:ag)(dflt:Int):Option O->Option Int
 |none=>some dflt
 |some x=>match aL gl st x with
  |.d (.int _ n)=>some n
  |_=>none
def e3(ai:Bool)(ks:List Nat)(k:D):List (D×ah)->Nat->Option (Option Nat)
 |[],_=>some none
 |e::es,i=>cond (fe ai e.1) (match cA ks k.cells e.1.cells with
  |some true=>some (some i)
  |some false=>e3 ai ks k es (i+1)
  |none=>none) none
def np(es:List (D×ah))(k:D)(v:ah):Option Nat->List (D×ah)
 |some j=>es.set j (k,v)
 |none=>es++[(k,v)]
def oD:List D->Option (List UInt8)
 |[]=>some []
 |.int .u8 n::l=>match oD l with
  |some s=>some (UInt8.ofNat n.toNat::s)
  |none=>none
 |_=>none
def qp(st:ag)(v:ah)(sz:Nat):Option (List ah×Nat):=
 match v with
 |.aN i off len _ dt=>match st.s.getD i .dead with
  |.box cs=>
   let us:=((cs.drop off).take (len*sz)).map gP;cond (Nat.beq dt sz&&Nat.ble (off+len*sz) cs.length&&us.all kn) (some (us,len)) none
  |_=>none
 |v=>match s5 v with
  |some (dt,l)=>cond (Nat.beq dt sz) (some ((l.flatMap D.cells).map ah.d,l.length)) none
  |none=>none
def chunks(sz:Nat):Nat->List D->List D
 |0,_=>[]
 |n+1,l=>(cond (Nat.beq sz 1) (l.headD .dP) (.agg (l.take sz)))::chunks sz n (l.drop sz)
def qq(st:ag)(v:ah):Option (Nat×List D):=
 match v with
 |.aN i off len _ sz=>match st.s.getD i .dead with
  |.box cs=>cond (Nat.ble (off+len*sz) cs.length) (match jz ((cs.drop off).take (len*sz))with
   |some l=>cond (l.all jA) (some (sz,chunks sz len l)) none
   |none=>none) none
  |_=>none
 |v=>s5 v
def pk(s:aU):ah->Option (D×Nat)
 |.aN k off len cap sz=>match s.getD k .dead with
  |.box bs=>cond (Nat.ble len cap&&Nat.blt 0 sz&&Nat.ble (off+len*sz) bs.length) (match jz ((bs.drop off).take (len*sz))with
   |some l=>cond (l.all jA) (some (.list sz (chunks sz len l),k)) none
   |none=>none) none
  |_=>none
 |_=>none
def A4(s:aU)(i j:Nat):Option aU:=
 match s.getD i .dead with
 |.box cs=>match cs.getD j .undef with
  |.aN k off len cap sz=>match pk s (.aN k off len cap sz)with
   |some (y,k)=>cond (Nat.beq k i) none (some ((s.set k .dead).set i (.box (cs.set j (.d y)))))
   |none=>none
  |_=>some s
 |_=>none
def s7(i:Nat):aU->Nat->Nat->Option aU
 |s,_,0=>some s
 |s,j,n+1=>match A4 s i j with
  |some s'=>s7 i s' (j+1) n
  |none=>none
def fc.val:fc->ah
 |.d x=>.d x
 |.nil z=>.own z []
def HD:ah->Option fc
 |.d x=>some (.d x)
 |.own z []=>some (.nil z)
 |_=>none
def uS:List ah->Option (List fc)
 |[]=>some []
 |v::l=>match HD v,uS l with
  |some x,some xs=>some (x::xs)
  |_,_=>none
def jB(cs:List fc):List ah:=cs.map fc.val
def wL(s:aU)(i j:Nat):Option aU:=match s.getD i .dead with
 |.box cs=>match cs.getD j .undef with
  |.raw sz n us=>some (s.set i (.box (cs.set j (.aN s.length 0 n n sz)))++[.box (jB us)])
  |_=>some s
 |_=>none
def qs(i:Nat):aU->Nat->Nat->Option aU
 |s,_,0=>some s
 |s,j,n+1=>match wL s i j with
  |some s'=>qs i s' (j+1) n
  |none=>none
def hG(nw rw:Bool)(d s:Nat)(x:O)(sz b1:Nat)(st:ag)(K:ag->R):R:=
 match st.aR s with
 |.own ej l=>cond (nw&&l.isEmpty)
  (match qp st (aL gl st x) sz with
   |some (_,0)=>K (st.set d (.own sz []))
   |some (us,k)=>cond rw (match uS us with
    |some cs=>A.guard (Nat.beq ej sz&&Nat.ble k b1) (K (st.set d (.raw sz k cs)))
    |none=>A.fail) (A.guard (Nat.beq ej sz&&Nat.ble k b1) (K ({st with s:=st.s++[b9.box us]}.set d (.aN st.s.length 0 k k sz))))
   |none=>A.fail)
  (match qq st (aL gl st x)with
   |some (dt,l2)=>A.guard (Nat.beq ej sz&&Nat.beq dt sz&&Nat.ble (l.length+l2.length) b1) (K ((st.set s .undef).set d (.own sz (l++l2))))
   |none=>A.fail)
 |.raw ej n cs=>match qp st (aL gl st x) sz with
  |some (us,k)=>match uS us with
   |some gC=>A.guard (Nat.beq ej sz&&Nat.ble (n+k) b1) (K ((st.set s .undef).set d (.raw sz (n+k) (cs++gC))))
   |none=>A.fail
  |none=>A.fail
 |.aN i off len cap ej=>match st.s.getD i .dead,qp st (aL gl st x) sz with
  |.box cs,some (us,k)=>
   A.guard (Nat.beq ej sz&&Nat.ble (len+k) b1) <| cond (Nat.ble (len+k) cap)
    (A.guard (Nat.ble (off+(len+k)*sz) cs.length) (K ({st with s:=st.s.set i (.box (putCells cs (off+len*sz) us))}.set d (.aN i off (len+k) cap sz))))
    (A.guard (Nat.beq off 0&&Nat.ble (len*sz) cs.length) (K ({st with s:=st.s.set i .dead++[b9.box (cs.take (len*sz)++us)]}.set d (.aN st.s.length 0 (len+k) (len+k) sz))))
  |_,_=>A.fail
 |.gJ ej=>match qq st (aL gl st x)with
  |some (dt,l2)=>A.guard (Nat.beq ej sz&&Nat.beq dt sz&&Nat.ble l2.length b1) (K ((st.set s .undef).set d (iz sz l2)))
  |none=>A.fail
 |_=>A.fail
def step(i:I)(st:ag)(K:ag->R):R:=
 match i with
 |.cV d x=>K (st.set d (snap (aL gl st x)))
 |.hj d s=>K ((st.set s .undef).set d (st.aR s))
 |.e2 d x=>K ((kill st x).set d (aL gl st x))
 |.dU d c a b=>match aL gl st c with
  |.d (.bool t)=>cond t (K (st.set d (snap (aL gl st a)))) (K (st.set d (snap (aL gl st b))))
  |_=>A.fail
 |.kN d z=>match st.bH d with
  |none=>K ((st.dX d z).set d (.dT d 0))
  |some _=>A.fail
 |.fV d x n=>match st.bH d with
  |none=>
   let cs:=cellsOf (gP (aL gl st x));A.guard (Nat.beq cs.length n&&cs.all (ea depth)) (K ((st.dX d cs).set d (.dT d 0)))
  |some _=>A.fail
 |.bp d z=>K ({st with s:=st.s++[b9.box z]}.set d (.ptr st.s.length 0))
 |.au d x n=>
  let cs:=cellsOf (gP (aL gl st x));A.guard (Nat.beq cs.length n&&cs.all (ea depth)) (K ({st with s:=st.s++[b9.box cs]}.set d (.ptr st.s.length 0)))
 |.wE d z ps=>match pj gl st z ps with
  |some cs=>K (st.set d (.agg cs))
  |none=>A.fail
 |.li d sz xs=>match elems gl st sz xs with
  |some l=>K (st.set d (.own sz l))
  |none=>A.fail
 |.hX d a t off n ai=>match aL gl st a,st.bH t with
  |.dT ek dL,some cs=>
   A.guard (Nat.beq ek t&&Nat.beq dL off&&Nat.ble (off+n) cs.length) (K (st.set d (valOf cs off n ai)))
  |_,_=>A.fail
 |.lt d a t off=>match aL gl st a,st.bH t with
  |.dT ek dL,some cs=>
   A.guard (Nat.beq ek t&&Nat.beq dL off&&Nat.blt off cs.length) (K ((st.dX t (cs.set off .undef)).set d (cs.getD off .undef)))
  |_,_=>A.fail
 |.ls a t off x n=>match aL gl st a,st.bH t with
  |.dT ek dL,some cs=>
   let vs:=cellsOf (aL gl st x);A.guard (Nat.beq ek t&&Nat.beq dL off&&Nat.beq vs.length n&&Nat.ble (off+n) cs.length&&vs.all kn) (K ((kill st x).dX t (putCells cs off vs)))
  |_,_=>A.fail
 |.aI d a n ai=>match aL gl st a with
  |.ptr i off=>match st.s.getD i .dead with
   |.box cs=>A.guard (Nat.ble (off+n) cs.length&&(ai||Nat.beq n 1)) (K (st.set d (valOf cs off n ai)))
   |_=>A.fail
  |.d (.e1 cs off)=>A.guard (Nat.ble (off+n) cs.length) (K (st.set d (.d (cond ai (.agg ((cs.drop off).take n)) (cs.getD off .dP)))))
  |_=>A.fail
 |.aE d a=>match aL gl st a with
  |.ptr i off=>match st.s.getD i .dead with
   |.box cs=>A.guard (Nat.blt off cs.length) (K ({st with s:=st.s.set i (.box (cs.set off .undef))}.set d (cs.getD off .undef)))
   |_=>A.fail
  |_=>A.fail
 |.hs a x n=>match aL gl st a with
  |.ptr i off=>match st.s.getD i .dead with
   |.box cs=>
    let vs:=cellsOf (aL gl st x);A.guard (Nat.beq vs.length n&&Nat.ble (off+n) cs.length&&vs.all kn) (K {kill st x with s:=st.s.set i (.box (putCells cs off vs))})
   |_=>A.fail
  |_=>A.fail
 |.wF d x=>match aL gl st x with
  |.ptr i o=>K (st.set d (.ptr i o))
  |.dT t o=>K (st.set d (.dT t o))
  |.d (.e1 cs o)=>K (st.set d (.d (.e1 cs o)))
  |.d (.fn f)=>K (st.set d (.d (.fn f)))
  |.func f a c=>K (st.set d (.func f a c))
  |_=>A.fail
 |.bi d op x y=>match aL gl st x,aL gl st y with
  |.d (.int k a),.d (.int k' b)=>match wK op k a b with
   |some r=>A.guard (decide (0<=b)) (K (st.set d (.d r)))
   |none=>match A2 op k a b with
    |some (ok,r)=>A.guard (decide (k=k')) (A.guard ok (K (st.set d (.d r))))
    |none=>A.fail
  |.d (.str a),.d (.str b)=>match A3 op a b with
   |some (ok,r)=>A.guard ok (K (st.set d (.d r)))
   |none=>A.fail
  |_,_=>A.fail
 |.eq d neg ai ks x y=>match hq (aL gl st x),hq (aL gl st y)with
  |some a,some b=>A.guard (fe ai a&&fe ai b) <| match cA ks a.cells b.cells with
   |some r=>K (st.set d (.d (.bool (cond neg (!r) r))))
   |none=>A.fail
  |_,_=>A.fail
 |.un d op x=>match op,aL gl st x with
  |.not,.d (.bool b)=>K (st.set d (.d (.bool (!b))))
  |.neg,.d (.int k n)=>K (st.set d (.d (.int k (k.wrap (0-n)))))
  |.xor,.d (.int k n)=>K (st.set d (.d (.int k (k.wrap (BitVec.ofInt k.bits (if k.signed then -1 else k.max)^^^BitVec.ofInt k.bits n).toNat))))
  |_,_=>A.fail
 |.ci d k x=>match aL gl st x with
  |.d (.int _ n)=>K (st.set d (.d (.int k (k.wrap n))))
  |_=>A.fail
 |.h' d x=>match aL gl st x with
  |.d (.str s)=>K (st.set d (.d (.list 1 (s.map gk))))
  |_=>A.fail
 |.bs d x=>match hr (aL gl st x)with
  |some (_,l)=>match oD l with
   |some s=>K (st.set d (.d (.str s)))
   |none=>A.fail
  |none=>A.fail
 |.gK d x off=>match aL gl st x with
  |.ptr i o=>K (st.set d (.ptr i (o+off)))
  |.dT t o=>K (st.set d (.dT t (o+off)))
  |.d (.e1 cs o)=>K (st.set d (.d (.e1 cs (o+off))))
  |_=>A.fail
 |.fd d x off n ai=>
  let cs:=cellsOf (aL gl st x);A.guard (wI (aL gl st x)&&Nat.ble (off+n) cs.length) (K (st.set d (valOf cs off n ai)))
 |.lQ d x i sz=>match aL gl st i with
  |.d (.int _ n)=>match aL gl st x with
   |.aN j off len _ ib=>A.guard (Nat.beq ib sz&&decide (0<=n)&&decide (n<len)) (K (st.set d (.ptr j (off+n.toNat*sz))))
   |v=>match hr v with
    |some (ib,l)=>A.guard (Nat.beq ib sz&&decide (0<=n)&&decide (n<l.length)) (K (st.set d (.d (.e1 (l.getD n.toNat .dP).cells 0))))
    |none=>A.fail
  |_=>A.fail
 |.aa d x i len sz=>match aL gl st i with
  |.d (.int _ n)=>A.guard (decide (0<=n)&&decide (n<len)) <| match aL gl st x with
   |.ptr j o=>K (st.set d (.ptr j (o+n.toNat*sz)))
   |.dT t o=>K (st.set d (.dT t (o+n.toNat*sz)))
   |.d (.e1 cs o)=>K (st.set d (.d (.e1 cs (o+n.toNat*sz))))
   |_=>A.fail
  |_=>A.fail
 |.mz d x i=>match aL gl st x,aL gl st i with
  |.d (.str s),.d (.int _ n)=>A.guard (decide (0<=n)&&decide (n<s.length)) (K (st.set d (.d (gk (s.getD n.toNat 0)))))
  |_,_=>A.fail
 |.ss d x lo hi=>match aL gl st x with
  |.d (.str s)=>match bound gl st 0 lo,bound gl st s.length hi with
   |some l,some h=>A.guard (decide (0<=l)&&decide (l<=h)&&decide (h<=s.length)) (K (st.set d (.d (.str ((s.drop l.toNat).take (h.toNat-l.toNat))))))
   |_,_=>A.fail
  |_=>A.fail
 |.aN d hY x lo hi mx=>match aL gl st x with
  |.aN j off len cap sz=>match bound gl st 0 lo,bound gl st len hi,bound gl st cap mx with
   |some l,some h,some m=>A.guard (Nat.beq sz hY&&decide (0<=l)&&decide (l<=h)&&decide (h<=m)&&decide (m<=cap)) (K (st.set d (cond (decide (l=m)) (.d (.list sz [])) (.aN j (off+l.toNat*sz) (h.toNat-l.toNat) (m.toNat-l.toNat) sz))))
   |_,_,_=>A.fail
  |v=>match hr v with
  |some (sz,s)=>match bound gl st 0 lo,bound gl st s.length hi,bound gl st s.length mx with
   |some l,some h,some m=>A.guard (Nat.beq sz hY&&decide (0<=l)&&decide (l<=h)&&decide (h<=m)&&decide (m<=s.length)) (K (st.set d (.d (.list sz ((s.drop l.toNat).take (h.toNat-l.toNat))))))
   |_,_,_=>A.fail
  |none=>A.fail
 |.wG d f first gI=>match first,gI with
  |[],[]=>K (st.set d (.d (.fn f)))
  |_,_=>
   let fp:=first.map λx=>cT (snap (aL gl st x))
   let cs:=gI.map λx=>cT (snap (aL gl st x));A.guard (fp.all (ea depth)&&cs.all (ea depth)) (K (st.set d (.func f fp cs)))
 |.dH d f args=>match aL gl st f with
  |.d (.fn f)=>kP A f (args.map (jK gl st)) st.s λr s'=>K ({st with s:=s'}.dI d r)
  |.func f a c=>kP A f (a++args.map (jK gl st)++c) st.s λr s'=>K ({st with s:=s'}.dI d r)
  |_=>A.fail
 |.ap d s x sz b1=>hG A gl false false d s x sz b1 st K
 |.nj d s x sz b1=>hG A gl true false d s x sz b1 st K
 |.nk d s x sz b1=>hG A gl true true d s x sz b1 st K
 |.kO d s z i x sz b1=>match st.aR s,s5 (st.aR z),st.aR i,hq (aL gl st x)with
  |.own ej l,some (dt,[_]),.d (.int _ n),some kQ=>
   A.guard (Nat.beq ej sz&&Nat.beq dt sz&&decide (n=l.length)&&Nat.ble (l.length+1) b1&&Nat.beq kQ.cells.length sz&&kQ.cells.all jA) (K ((st.set s .undef).set d (.own sz (l++[kQ]))))
  |_,_,_,_=>A.fail
 |.rF d sz xs=>
  let vs:=xs.map λx=>cellsOf (gP (aL gl st x));A.guard (!xs.isEmpty&&vs.all λl=>Nat.beq l.length sz&&l.all kn) (K ({st with s:=st.s++[b9.box vs.flatten]}.set d (.aN st.s.length 0 xs.length xs.length sz)))
 |.mk d sz z n b1=>match aL gl st n with
  |.d (.int _ n)=>A.guard (decide (0<=n)&&decide (n<=b1)) (K ({st with s:=st.s++[b9.box (List.replicate n.toNat z).flatten]}.set d (.aN st.s.length 0 n.toNat n.toNat sz)))
  |_=>A.fail
 |.oA d x z=>match aL gl st x with
  |.aN i off len _ sz=>match st.s.getD i .dead with
   |.box cs=>A.guard (Nat.beq z.length sz&&Nat.ble (off+len*sz) cs.length) (K ({st with s:=st.s.set i (.box (putCells cs off (List.replicate len z).flatten))}.dI d (.tuple [])))
   |_=>A.fail
  |v=>match hr v with
   |some (_,[])=>K (st.dI d (.tuple []))
   |_=>A.fail
 |.wH d x i len sz ai=>match aL gl st i with
  |.d (.int _ n)=>
   let cs:=cellsOf (aL gl st x);A.guard (decide (0<=n)&&decide (n<len)&&wI (aL gl st x)&&Nat.ble (n.toNat*sz+sz) cs.length) (K (st.set d (valOf cs (n.toNat*sz) sz ai)))
  |_=>A.fail
 |.ak d t e=>K ({st with s:=st.s++[b9.hU t e []]}.set d (.ptr st.s.length 0))
 |.so d s hY x=>match st.aR s,aL gl st x with
  |.own sz l,.d (.int _ n)=>A.guard (Nat.beq sz hY&&decide (0<=n)&&decide (n<=l.length)&&!l.isEmpty) (K ((st.set s .undef).set d (iz sz (l.drop n.toNat))))
  |_,_=>A.fail
 |.nn d own x=>match aL gl st x with
  |.aN k off len cap sz=>match pk st.s (.aN k off len cap sz)with
   |some (y,k)=>K ({st with s:=st.s.set k .dead}.set d (cond own (match y with|.list sz l=>iz sz l|y=>.d y) (.d y)))
   |none=>A.fail
  |v=>K ((kill st x).set d v)
 |.aO d a n=>match aL gl st a with
  |.ptr i off=>match s7 i st.s off n with
   |some s'=>match s'.getD i .dead with
    |.box cs=>A.guard (Nat.ble (off+n) cs.length) (K ({st with s:=s'}.set d (valOf cs off n true)))
    |_=>A.fail
   |none=>A.fail
  |_=>A.fail
 |.pg d x=>match x with
  |.t s=>match st.aR s with
   |.raw sz n cs=>K (({st with s:=st.s++[b9.box (jB cs)]}.set s (.aN st.s.length 0 n n sz)).set d (.aN st.s.length 0 n n sz))
   |.ptr i off=>match st.s.getD i .dead with
    |.box cs=>match qs i st.s 0 cs.length with
     |some s'=>K ({st with s:=s'}.set d (.ptr i off))
     |none=>A.fail
    |_=>A.fail
   |v=>K (st.set d (snap v))
  |_=>A.fail
 |.bad _=>A.fail
 |.lR d=>K (st.dI d .undef)
 |.ni d str x=>match aL gl st x with
  |.aN _ _ len _ _=>A.guard (!str) (K (st.set d (.d (.int .i64 len))))
  |.d (.str s)=>A.guard str (K (st.set d (.d (.int .i64 s.length))))
  |v=>match hr v with
   |some (_,l)=>A.guard (!str) (K (st.set d (.d (.int .i64 l.length))))
   |none=>A.fail
 |.ex d x i=>match aL gl st x with
  |.tuple vs=>A.guard (Nat.blt i vs.length) (K (st.set d (vs.getD i .undef)))
  |_=>A.fail
 |.mm d=>K ({st with s:=st.s++[b9.map []]}.set d (.map st.s.length))
 |.aJ d ai ks m k z ok=>match hq (aL gl st k)with
  |none=>A.fail
  |some k=>A.guard (fe ai k&&(cA ks k.cells k.cells).isSome) <| match aL gl st m with
   |.d .hS=>K (st.set d (cond ok (.tuple [cT z,.d (.bool false)]) (cT z)))
   |.d (.ln kl vl)=>match e3 ai ks k ((kl.zip vl).map λe=>(e.1,.d e.2)) 0 with
    |some none=>K (st.set d (cond ok (.tuple [cT z,.d (.bool false)]) (cT z)))
    |some (some j)=>match vl[j]? with
     |some v=>K (st.set d (cond ok (.tuple [.d v,.d (.bool true)]) (.d v)))
     |none=>A.fail
    |none=>A.fail
   |.map i=>match st.s.getD i .dead with
    |.map es=>match e3 ai ks k es 0 with
     |some none=>K (st.set d (cond ok (.tuple [cT z,.d (.bool false)]) (cT z)))
     |some (some j)=>match es[j]? with
      |some e=>K (st.set d (cond ok (.tuple [e.2,.d (.bool true)]) e.2))
      |none=>A.fail
     |none=>A.fail
    |_=>A.fail
   |_=>A.fail
 |.oz ai ks m k x=>match aL gl st m,hq (aL gl st k)with
  |.map i,some k=>match st.s.getD i .dead with
   |.map es=>match e3 ai ks k es 0 with
    |some j=>A.guard (ea depth (cT (aL gl st x))&&fe ai k&&(cA ks k.cells k.cells).isSome) (K {st with s:=st.s.set i (.map (np es k (cT (aL gl st x)) j))})
    |none=>A.fail
   |_=>A.fail
  |_,_=>A.fail
 |.qm d lt x y=>match aL gl st x,aL gl st y with
  |.d (.int k a),.d (.int k' b)=>A.guard (decide (k=k')) (K (st.set d (.d (.int k (cond (cond lt (decide (b<a)) (decide (a<b))) b a)))))
  |_,_=>A.fail
 |.mA d neg ho x=>match ho with
  |0=>match wJ (aL gl st x)with
   |some (_,_::_)=>K (st.set d (.d (.bool neg)))
   |some (_,[])=>A.both (K (st.set d (.d (.bool neg)))) (K (st.set d (.d (.bool (!neg)))))
   |none=>A.fail
  |1=>match aL gl st x with
   |.map _=>K (st.set d (.d (.bool neg)))
   |.d .hS=>K (st.set d (.d (.bool (!neg))))
   |_=>A.fail
  |2=>match aL gl st x with
   |.func _ _ _|.d (.fn _)=>K (st.set d (.d (.bool neg)))
   |.d .ll=>K (st.set d (.d (.bool (!neg))))
   |_=>A.fail
  |4=>match aL gl st x with
   |.d (.iface _ _)|.d .hT=>K (st.set d (.d (.bool neg)))
   |.d .iy=>K (st.set d (.d (.bool (!neg))))
   |_=>A.fail
  |3=>match aL gl st x with
   |.ptr _ _|.d (.e1 _ _)=>K (st.set d (.d (.bool neg)))
   |.d .dP=>K (st.set d (.d (.bool (!neg))))
   |_=>A.fail
  |_=>A.fail
 |.cr d k x y=>match aL gl st x,aL gl st y with
  |.d (.str a),.d (.str b)=>match HC k a b with
   |some r=>K (st.set d (.d r))
   |none=>A.fail
  |_,_=>A.fail
def steps:List cf->ag->(ag->R)->R
 |[],st,K=>K st
 |⟨none,i⟩::l,st,K=>step A gl i st λst=>steps l st K
 |⟨some (s,want),i⟩::l,st,K=>match st.aR s with
  |.d (.bool b)=>cond (cond want b (!b)) (step A gl i st λst=>steps l st K) (steps l (st.dI i.dst (.tuple [])) K)
  |.tuple []=>steps l (st.dI i.dst (.tuple [])) K
  |_=>A.fail
structure jc where
 r:List (Nat×Nat×Nat):=[]
 w:List (Nat×Nat×Nat):=[]
 k:List Nat:=[]
 a:Option Nat:=none
 v:List (Nat×Nat×List ah):=[]
 c:Option (List Nat×aU×aU):=none
 deriving Inhabited
def big:Nat:=1000000000000
def kR(st:ag):O->List Nat
 |.t s=>match st.aR s with
  |.own _ _|.gJ _|.raw _ _ _=>[s]
  |_=>[]
 |_=>[]
def DU(st aT:ag)(args:List ah):jc:=
 {a:=some st.s.length,c:=some (reach st.s (st.s.length+st.s.length+8) (args.flatMap (refs depth)) [],st.s,aT.s)}
def qt(v:ah):List (Nat×Nat×Nat):=match v with
 |.aN i _ _ _ _=>[(i,0,big)]
 |_=>[]
def hc(i:I)(st aT:ag):jc:=
 match i with
 |.aI _ a n _=>match aL gl st a with
  |.ptr i off=>match st.s.getD i .dead with
   |.box cs=>{r:=[(i,off,n)],v:=[(i,off,(cs.drop off).take n)]}
   |_=>{}
  |_=>{}
 |.aE _ a=>match aL gl st a with
  |.ptr i off=>{w:=[(i,off,1)]}
  |_=>{}
 |.hs a x n=>match aL gl st a with
  |.ptr i off=>{w:=[(i,off,n)],k:=kR st x}
  |_=>{k:=kR st x}
 |.e2 _ x|.ls _ _ _ x _=>{k:=kR st x}
 |.aJ _ _ _ m _ _ _=>match aL gl st m with
  |.map i=>{r:=[(i,0,big)]}
  |_=>{}
 |.oz _ _ m _ _=>match aL gl st m with
  |.map i=>{w:=[(i,0,big)]}
  |_=>{}
 |.bp .. |.au .. |.mm .. |.mk .. |.rF .. |.ak .. =>{a:=some st.s.length}
 |.oA _ x _=>match aL gl st x with
  |.aN i _ _ _ _=>{w:=[(i,0,big)]}
  |_=>{}
 |.ap _ s x _ _|.nj _ s x _ _|.nk _ s x _ _=>match st.aR s with
  |.aN i _ _ _ _=>{r:=qt (aL gl st x),w:=[(i,0,big)],a:=some st.s.length}
  |_=>{r:=qt (aL gl st x),a:=some st.s.length}
 |.dH _ f args=>match aL gl st f with
  |.d (.fn _)=>DU st aT (args.map (jK gl st))
  |.func _ a c=>DU st aT (a++args.map (jK gl st)++c)
  |_=>{}
 |_=>{}
def mC(a b:List (Nat×Nat×Nat)):Bool:=
 a.all λx=>b.all λy=>!Nat.beq x.1 y.1||(!Nat.beq x.2.2 big&&!Nat.beq y.2.2 big&&(Nat.ble (x.2.1+x.2.2) y.2.1||Nat.ble (y.2.1+y.2.2) x.2.1))
mutual
def ko:D->D->Bool
 |.bool a,.bool b=>a==b
 |.int k a,.int j b=>decide (k=j)&&decide (a=b)
 |.str a,.str b=>decide (a=b)
 |.list z a,.list y b=>Nat.beq z y&&s8 a b
 |.agg a,.agg b=>s8 a b
 |.dP,.dP=>true
 |.hS,.hS=>true
 |.ll,.ll=>true
 |.iy,.iy=>true
 |.fn a,.fn b=>Nat.beq a b
 |.e1 a n,.e1 b m=>s8 a b&&Nat.beq n m
 |.iface a x,.iface b y=>Nat.beq a b&&ko x y
 |_,_=>false
def s8:List D->List D->Bool
 |[],[]=>true
 |x::a,y::b=>ko x y&&s8 a b
 |_,_=>false
end
def DV:ah->ah->Bool
 |.d a,.d b=>ko a b
 |.own z a,.own y b=>Nat.beq z y&&s8 a b
 |.ptr i o,.ptr j p=>Nat.beq i j&&Nat.beq o p
 |.map i,.map j=>Nat.beq i j
 |.aN i o l c z,.aN iQ o' bC c' z'=>Nat.beq i iQ&&Nat.beq o o'&&Nat.beq l bC&&Nat.beq c c'&&Nat.beq z z'
 |_,_=>false
def yK:List ah->List ah->Bool
 |[],[]=>true
 |x::a,y::b=>DV x y&&yK a b
 |_,_=>false
def sameAt(s:aU)(c:Nat×Nat×List ah):Bool:=match s.getD c.1 .dead with
 |.box cs=>Nat.ble (c.2.1+c.2.2.length) cs.length&&yK c.2.2 ((cs.drop c.2.1).take c.2.2.length)
 |_=>false
def pn(f g:jc):Bool:=match f.c with
 |none=>true
 |some (ids,fq,s)=>g.c.isNone&&g.w.all (λc=>!dk c.1 ids)&&(g.r.all (λc=>!dk c.1 ids)||(g.w.isEmpty&&g.v.all (λc=>!dk c.1 ids||(sameAt fq c&&sameAt s c))&&Nat.beq g.r.length 1&&Nat.beq g.v.length 1))
def rH(f g:jc):Bool:=match f.a with
 |none=>true
 |some n=>g.a.isNone&&g.r.all (λc=>Nat.blt c.1 n)&&g.w.all (λc=>Nat.blt c.1 n)
def A5(x:cf)(en:jc)(y:cf)(fk:jc):Bool:=
 qo en.k (y.rd++y.i.hw)&&qo fk.k (x.rd++x.i.hw)&&mC en.w (fk.r++fk.w)&&mC fk.w en.r&&pn en fk&&pn fk en&&rH en fk&&rH fk en
def yL(g:cf)(st aT:ag):jc:=match g.g with
 |none=>hc gl g.i st aT
 |some (s,want)=>match st.aR s with
  |.d (.bool b)=>cond (cond want b (!b)) (hc gl g.i st aT) {}
  |_=>{}
def jZ(i:I)(st:ag):Option (b9×Nat×(Nat->ah)):=
 match i with
 |.bp d z=>some (.box z,d,λi=>.ptr i 0)
 |.au d x n=>
  let cs:=cellsOf (gP (aL gl st x));cond (Nat.beq cs.length n&&cs.all (ea depth)) (some (.box cs,d,λi=>.ptr i 0)) none
 |.mm d=>some (.map [],d,λi=>.map i)
 |.mk d sz z n b1=>match aL gl st n with
  |.d (.int _ n)=>cond (decide (0<=n)&&decide (n<=b1)) (some (.box (List.replicate n.toNat z).flatten,d,λi=>.aN i 0 n.toNat n.toNat sz)) none
  |_=>none
 |_=>none
def hZ:I->Bool
 |.bp .. |.au .. |.mm .. |.mk .. =>true
 |_=>false
def po(l:List cf):Nat:=match l with
 |[]=>0
 |g::l=>cond (hZ g.i) (po l+1) (po l)
def step1(g:cf)(st:ag)(K:ag->R):R:=match g.g with
 |none=>step A gl g.i st K
 |some (s,want)=>match st.aR s with
  |.d (.bool b)=>cond (cond want b (!b)) (step A gl g.i st K) (K (st.dI g.i.dst (.tuple [])))
  |.tuple []=>K (st.dI g.i.dst (.tuple []))
  |_=>A.fail
def kp(id:Nat)(g:cf)(st:ag)(K:ag->R):R:=cond (hZ g.i)
 (match g.g,jZ gl g.i st with
  |none,some (o,d,v)=>A.guard (Nat.blt id st.s.length) (K ({st with s:=st.s.set id o}.set d (v id)))
  |_,_=>A.fail)
 (step1 A gl g st K)
def uT(id:Nat)(g:cf)(st aT:ag):jc:=cond (hZ g.i) {w:=[(id,0,big)]} (yL gl g st aT)
def qu:List cf->List (List Nat)->List (cf×jc)->Nat->ag->(ag->R)->R
 |[],_,_,_,st,K=>K st
 |g::l,dy,acc,id,st,K=>
  kp A gl id g st λaT=>
  A.guard ((dy.headD []).all λi=>match acc[i]? with
   |some (x,en)=>A5 x en g (uT gl id g st aT)
   |none=>false) <|
  qu l dy.tail (acc++[(g,uT gl id g st aT)]) (cond (hZ g.i) (id+1) id) aT K
def ag.room(st:ag)(n:Nat):ag:={st with s:=st.s++List.replicate n .dead}
def qv(l:List cf)(dy:List (List Nat))(st:ag)(K:ag->R):R:=qu A gl l dy [] st.s.length (st.room (po l)) K
def s9(aR:Nat->ah):List Nat->Nat->ah
 |[]=>λ_=>.undef
 |s::l=>cC (s9 aR l) s (aR s)
def ta(bH:Nat->Option (List ah)):List Nat->Nat->Option (List ah)
 |[]=>λ_=>none
 |s::l=>cC (ta bH l) s (bH s)
def keeps(aR:Nat->ah)(bs:List Nat):List Nat->Bool
 |[]=>true
 |s::l=>(match aR s with|.dT t _=>dk t bs|_=>true)&&keeps aR bs l
def okB(n:Nat)(bH:Nat->Option (List ah))(t:Nat):Bool:=match bH t with
 |some cs=>cs.all (fA n depth)
 |none=>true
def DW(n:Nat)(ts bs:List Nat)(st:ag):ag:=
 ⟨s9 st.aR ts,ta st.bH bs,cond (ts.all (λt=>fA n depth (st.aR t))&&bs.all (okB n st.bH)&&(st.s.take n).all (b9.fA n)) (st.s.take n) st.s⟩
def forget(n:Nat)(ts bs:List Nat)(st:ag)(K:ag->R):R:=
 A.guard (keeps st.aR bs ts) (K (DW n ts bs st))
def lr:ah->ah
 |.own sz l=>.d (.list sz l)
 |.gJ sz=>.d (.list sz [])
 |.raw _ _ _=>.undef
 |.dT _ _=>.undef
 |v=>v
def ag.lr(st:ag):ag:=⟨λt=>aH.lr (st.aR t),λ_=>none,st.s⟩
def yM(aR:Nat->ah):List Nat->List ah->Nat->ah
 |p::ps,v::vs=>yM (cC aR p v) ps vs
 |_,_=>aR
def rI:List ah->Nat->Nat->ah
 |[],_=>λ_=>.tuple []
 |v::l,n=>cC (rI l (n+1)) n v
abbrev iR(R:Type):=List ah->aU->(Option aB->aU->R)->R
def A6(Y:iR R)(d:Option Nat)(args:List O)(st:ag)(p:Option aB)(K:ag->Option aB->R):R:=
 A.guard (p.isNone&&(args.map λx=>cT (snap (aL gl st x))).all (ea depth)) <|
 Y (args.map λx=>cT (snap (aL gl st x))) st.s λp' s'=>K ({st.lr with s:=s'}.dI d (.d (.bool p'.isNone))) p'
def A7(st:ag):I->ah
 |.dH _ f _=>aL gl st f
 |_=>.undef
def mD(Y:iR R)(yi:Nat)(i:I)(st:ag)(p:Option aB)(K:ag->Option aB->R):R:=
 match A7 gl st i,i with
 |.fY j,.dH d _ args=>A.guard (Nat.beq j yi) (A6 A gl Y d args st p K)
 |_,i=>step A gl i st λst=>K st p
def h3(Y:iR R)(yi:Nat):List cf->ag->Option aB->(ag->Option aB->R)->R
 |[],st,p,K=>K st p
 |⟨none,i⟩::l,st,p,K=>mD A gl Y yi i st p λst p=>h3 Y yi l st p K
 |⟨some (s,want),i⟩::l,st,p,K=>match st.aR s with
  |.d (.bool b)=>cond (cond want b (!b)) (mD A gl Y yi i st p λst p=>h3 Y yi l st p K) (h3 Y yi l (st.dI i.dst (.tuple [])) p K)
  |.tuple []=>h3 Y yi l (st.dI i.dst (.tuple [])) p K
  |_=>A.fail
def hk(Y:iR R)(yi:Nat):eG->ag->Option aB->(aB->ag->Option aB->R)->R
 |.skip,st,p,K=>K .normal st p
 |.ops l,st,p,K=>h3 A gl Y yi l st p (K .normal)
 |.any l dy,st,p,K=>qv A gl l dy st λst=>K .normal st p
 |.bad,_,_,_=>A.fail
 |.seq a b,st,p,K=>hk Y yi a st p λx st p=>match x with
  |.normal=>hk Y yi b st p K
  |x=>K x st p
 |.cond c a b,st,p,K=>match aL gl st c with
  |.d (.bool t)=>cond t (hk Y yi a st p K) (hk Y yi b st p K)
  |_=>A.fail
 |.block i b,st,p,K=>hk Y yi b st p λx st p=>match x with
  |.exit j=>cond (Nat.beq j i) (K .normal st p) (K (.exit j) st p)
  |x=>K x st p
 |.loop ts bs b,st,p,K=>A.guard p.isNone <| forget A st.s.length ts bs st λst0=>
  A.fix (λcI rec=>hk Y yi b cI none λx st p=>match x with
   |.normal=>A.guard p.isNone (forget A cI.s.length ts bs st rec)
   |x=>K x st p) st0
 |.ia _ _ _ _,_,_,_=>A.fail
 |.exit i,st,p,K=>K (.exit i) st p
 |.ret,st,p,K=>K .ret st p
def rJ(mE ia:ag->(aB->ag->R)->R)(ps:List Nat)(st0:ag):iR R:=λvs s iA=>
 A.guard (Nat.beq vs.length ps.length) <| mE {st0 with aR:=yM st0.aR ps vs,s:=s} λe cI=>match e with
  |.normal=>ia cI λe aP=>match e with
   |.normal=>iA none aP.s
   |e=>iA (some e) aP.s
  |_=>A.fail
def pq(mE ia:ag->(aB->ag->R)->R)(ps:List Nat)(g:Nat)(gI:List ah)(st:ag)(K:aB->ag->R):R:=
 A.iter g λcM=>A.guard cM.res.isEmpty <|
  hk A gl (rJ A mE ia ps st.lr) st.s.length cM.code {aR:=rI (.fY st.s.length::gI) 0,bH:=λ_=>none,s:=st.s++[.dead]} none λe A8 p=>match e with
   |.exit _=>A.fail
   |_=>K (p.getD .normal) {st.lr with s:=A8.s}
def run:eG->ag->(aB->ag->R)->R
 |.skip,st,K=>K .normal st
 |.ops l,st,K=>steps A gl l st (K .normal)
 |.any l dy,st,K=>qv A gl l dy st (K .normal)
 |.bad,_,_=>A.fail
 |.seq a b,st,K=>run a st λx st=>match x with
  |.normal=>run b st K
  |x=>K x st
 |.cond c a b,st,K=>match aL gl st c with
  |.d (.bool t)=>cond t (run a st K) (run b st K)
  |_=>A.fail
 |.block i b,st,K=>run b st λx st=>match x with
  |.exit j=>cond (Nat.beq j i) (K .normal st) (K (.exit j) st)
  |x=>K x st
 |.loop ts bs b,st,K=>forget A st.s.length ts bs st λst0=>
  A.fix (λcI rec=>run b cI λx st=>match x with
   |.normal=>forget A cI.s.length ts bs st rec
   |x=>K x st) st0
 |.ia x ps a b,st,K=>match aL gl st x with
  |.func g [] gI=>pq A gl (run a) (run b) ps g gI st K
  |.d (.fn g)=>pq A gl (run a) (run b) ps g [] st K
  |_=>A.fail
 |.exit i,st,K=>K (.exit i) st
 |.ret,st,K=>K .ret st
def wM(st:ag):oB->Option ah
 |.t t=>some (cT (st.aR t))
 |.o t=>some (st.aR t)
 |.b t n ai=>match st.aR t with
  |.dT ek 0=>match st.bH ek with
   |some cs=>cond (Nat.ble n cs.length) (some (valOf cs 0 n ai)) none
   |none=>none
  |_=>none
 |.h t n ai=>match st.aR t with
  |.ptr i off=>match st.s.getD i .dead with
   |.box cs=>cond (Nat.ble (off+n) cs.length) (some (valOf cs off n ai)) none
   |_=>none
  |_=>none
def uU(st:ag):List oB->Option (List ah)
 |[]=>some []
 |r::l=>match wM st r,uU st l with
  |some v,some vs=>some (cT v::vs)
  |_,_=>none
def qw(st:ag):List oB->Option ah
 |[r]=>wM st r
 |l=>(uU st l).map .tuple
def lS(fn:aX)(args:List ah)(s:aU)(K:ah->aU->R):R:=
 run A gl fn.code {aR:=rI args 0,bH:=λ_=>none,s} λx st=>match x with
  |.exit _=>A.fail
  |_=>match qw st fn.res with
   |some r=>A.guard (ea depth r) (K r (gc s.length r st.s))
   |none=>A.fail
end
structure eo where
 take:List Nat:=[]
 heap:List Nat:=[]
 live:List (List Nat×List Nat):=[]
 pure:List Nat:=[]
 own:Bool:=false
 objs:List Nat:=[]
 hU:List Nat:=[]
 uV:List Nat:=[]
 DX:List Nat:=[]
 rK:List Nat:=[]
 uW:List Nat:=[]
 deriving Inhabited,Repr
section
variable (P:Program)
def dc(t:Nat):Option Nat:=(P.info? t).map (·.size)
def bytesOf(t:Nat):Option Nat:=(P.info? t).map (·.bytes)
def kq(t:Nat):Option Bool:=match P.underlying t with
 |some (.struct _)=>some true
 |some (.array _ _)=>some true
 |some _=>some false
 |none=>none
def uX:Value->ah->Bool
 |.bool a,.d (.bool b)=>a==b
 |.int k n,.d (.int k' n')=>decide (k=k')&&decide (n=n')
 |.string s,.d (.str l)=>decide (s.data.toList=l)
 |.pointer none,.d .dP=>true
 |.map none,.d .hS=>true
 |.nilFunc,.d .ll=>true
 |.nilIface,.d .iy=>true
 |.slice _ 0 0,.own _ []=>true
 |.func (.func f) a c,.d (.fn g)=>decide (f=g)&&a.isEmpty&&c.isEmpty
 |_,_=>false
def DY:Value->ah->Bool
 |.agg vs,.agg cs=>decide (vs.size=cs.length)&&(vs.toList.zip cs).all λp=>uX p.1 p.2
 |.tuple vs,.tuple []=>vs.isEmpty
 |v,x=>uX v x
def oE:Nat->Nat->Option (List ah)
 |0,_=>none
 |n+1,t=>match P.underlying t with
  |some .bool=>some [.d (.bool false)]
  |some (.int k)=>some [.d (.int k 0)]
  |some .string=>some [.d (.str [])]
  |some (.slice e)=>(dc P e).map λs=>[.own s []]
  |some (.pointer _)=>some [.d .dP]
  |some (.map _ _)=>some [.d .hS]
  |some (.func _ _ _)=>some [.d .ll]
  |some (.interface _)=>some [.d .iy]
  |some (.struct fs)=>(fs.toList.mapM λf=>oE n f.type).map List.flatten
  |some (.array k e)=>(oE n e).map λz=>(List.replicate k z).flatten
  |_=>none
def zeros(t:Nat):Option (List ah):=do
 let cs <-oE P 20 t;let i <-P.info? t;let z <-i.zero;if decide (z.cells.size=cs.length)&&decide (i.size=cs.length)&&(z.cells.toList.zip cs).all (λp=>uX p.1 p.2)then some cs else none
def aeD(t:Nat)(v:Value):Option ah:=
 match v with
 |.bool b=>some (.d (.bool b))
 |.int k n=>some (.d (.int k n))
 |.string s=>some (.d (.str s.data.toList))
 |.pointer none=>some (.d .dP)
 |.map none=>some (.d .hS)
 |.nilFunc=>some (.d .ll)
 |.nilIface=>some (.d .iy)
 |.slice _ 0 0=>match P.underlying t with
  |some (.slice e)=>(dc P e).map λs=>.own s []
  |_=>some (.own 1 [])
 |.agg _=>(zeros P t).map .agg
 |.tuple vs=>if vs.isEmpty then some (.tuple [])else none
 |_=>none
def HE(t:Nat)(v:Value):Option ah:=
 match aeD P t v with
 |some x=>if DY v x then some x else none
 |none=>none
def NY(ai:Bool)(zs:List ah):ah:=if ai then .agg zs else zs.getD 0 .undef
def zeroV(t:Nat):Option ah:=
 match zeros P t,kq P t,(P.info? t).bind (·.zero)with
 |some zs,some ai,some v=>
  if DY v (NY ai zs)then some (NY ai zs)else none
 |_,_,_=>none
def bO(t:Nat):Operand->Option O
 |.tmp n=>some (.t n)
 |.const v=>(HE P t v).map .c
 |.global g=>some (.g g)
 |.func f=>some (.c (.d (.fn f)))
def nU(t:Nat):Option Operand->Option (Option O)
 |none=>some none
 |some x=>(bO P t x).map some
def rL(k:Nat->Option (List Nat)):List Field->Nat->Option (List Nat)
 |[],_=>some []
 |f::fs,off=>if f.name≠ "_" /\f.offset=off then match k f.type with
   |some a=>match rL k fs (off+a.length)with
    |some b=>if dc P f.type=some a.length then some (a++b)else none
    |none=>none
   |none=>none
  else none
def kinds:Nat->Nat->Option (List Nat)
 |0,_=>none
 |n+1,t=>match P.underlying t with
  |some .bool=>some [0]
  |some (.int _)=>some [1]
  |some .string=>some [2]
  |some (.struct fs)=>if P.stoodInHeld t=false then rL P (kinds n) fs.toList 0 else none
  |_=>none
def DZ(t:Nat):Option Nat:=match P.underlying t with
 |some .bool=>some 0
 |some (.int _)=>some 1
 |some .string=>some 2
 |_=>none
def D0(n t:Nat):Option (List Nat):=match P.underlying t with
 |some (.array m e)=>match DZ P e with
  |some c=>if dc P e=some 1 then some (List.replicate m c)else none
  |none=>none
 |_=>kinds P n t
def pr(n t:Nat):Option (List Nat):=match P.underlying t with
 |some (.struct fs)=>if P.stoodInHeld t=false then rL P (D0 P n) fs.toList 0 else none
 |_=>kinds P (n+1) t
def gp(t:Nat):Bool:=match P.underlying t with
 |some (.struct _)=>true
 |_=>false
def partOf(t i:Nat):Option (Nat×Nat):=match P.underlying t with
 |some (.struct fs)=>match fs[i]? with
  |some f=>(dc P f.type).map λs=>(f.offset,s)
  |none=>none
 |some (.array _ e)=>(dc P e).map λs=>(i*s,s)
 |_=>none
def aeE(t i:Nat):Nat:=match P.underlying t with
 |some (.struct fs)=>((fs[i]?).map (·.type)).getD 0
 |some (.array _ e)=>e
 |_=>0
def wN(t:Nat):Option Nat:=match P.underlying t with
 |some (.slice e)=>some e
 |_=>none
abbrev fl:=List (Nat×Nat×Nat)
def fl.look(m:fl)(s:Nat):Option (Nat×Nat):=match m with
 |[]=>none
 |(k,v)::l=>cond (Nat.beq k s) (some v) (fl.look l s)
def NZ:Option Operand->Bool
 |some (.const (.int _ n))=>decide (n=0)
 |_=>false
def yN:TypeDesc->Operand->Option Nat
 |.slice _,.const (.slice none 0 0)=>some 0
 |.map _ _,.const (.map none)=>some 1
 |.func _ _ _,.const .nilFunc=>some 2
 |.pointer _,.const (.pointer none)=>some 3
 |.interface _,.const .nilIface=>some 4
 |_,_=>none
def HF(g:Nat):Option Nat:=match P.funcs[g]? with
 |some fn=>if fn.body.isNone&&fn.name== "internal/bytealg.abigen_runtime_cmpstring" &&fn.origin== "" then some 0 else none
 |none=>none
def HG:Operand->Operand->Bool
 |.tmp x,.tmp y=>Nat.beq x y
 |_,_=>false
def yO(d t:Nat):Option I:=match P.underlying t,(P.info? t).bind (·.zero)with
 |some (.struct fs),some (.agg ⟨[.pointer none,.slice none 0 0]⟩)=>match fs.toList with
  |[_,f]=>match P.underlying f.type with
   |some (.slice e)=>match P.underlying e with
    |some (.int .u8)=>some (.ak d t e)
    |_=>none
   |_=>none
  |_=>none
 |_,_=>none
def jh(an:eo)(m:fl)(o:Oper):Option I:=do
 match o.op,o.dst with
 |.move x,some d=>
  if dk d an.take then match x with
   |.tmp s=>some (.hj d s)
   |_=>none
  else(bO P o.type x).map λy=>if dk d an.rK then .pg d y else .cV d y
 |.assign x,some d=>(bO P o.type x).map λy=>if dk d an.uV then .nn d false y else if dk d an.DX then .nn d true y else .e2 d y
 |.pick c a b,some d=>do some (.dU d (<-bO P 0 c) (<-bO P o.type a) (<-bO P o.type b))
 |.alloc e,some d=>do
  let z <-zeros P e;if dk d an.hU then yO P d e else
  some (if dk d an.heap then .bp d z else .kN d z)
 |.box e x,some d=>do
  let n <-dc P e;let x <-bO P e x;some (if dk d an.heap then .au d x n else .fV d x n)
 |.build t ps,some d=>do
  let z <-zeros P t;let ps <-ps.toList.mapM λ(i,x)=>do
   let (off,n) <-partOf P t i;some (off,n,<-bO P (aeE P t i) x)
  if (P.underlying t).any (·.isRow)then some (.wE d z ps)else none
 |.buildSlice t len ps,some d=>do
  let e <-wN P t;let n <-dc P e;let _ <-zeros P e;if decide (ps.toList.map (·.1)=List.range len)&&decide (len*n<=2^24)&&decide (0<n)then
   let xs <-ps.toList.mapM λ(_,x)=>bO P e x;some (if dk d an.objs then .rF d n xs else .li d n xs)
  else none
 |.load t a,some d=>do
  let n <-dc P t;let ai <-kq P t;let x <-bO P 0 a;let at_:Option (Nat×Nat):=match a with|.tmp s=>m.look s|_=>none
  if ai||decide (n=1)then
   match dk d an.take&&!ai,at_ with
   |false,some (b,off)=>some (.hX d x b off n ai)
   |false,none=>some (if ai&&dk d an.uV then .aO d x n else .aI d x n ai)
   |true,some (b,off)=>some (.lt d x b off)
   |true,none=>some (.aE d x)
  else none
 |.store t a x,none=>do
  let n <-dc P t;let y <-bO P 0 a;let z <-bO P t x;match a with
  |.tmp s=>match m.look s with
   |some (b,off)=>some (.ls y b off z n)
   |none=>some (.hs y z n)
  |_=>none
 |.nilCheck x,some d=>(bO P 0 x).map (.wF d)
 |.binOp op t x y u,some d=>do
  let a <-bO P t x;let b <-bO P u y;match P.underlying t,op with
  |some .bool,.eql=>some (.eq d false false [0] a b)
  |some .bool,.neq=>some (.eq d true false [0] a b)
  |some (.struct _),.eql=>if P.eqGuardType P.depth t=false then(pr P 9 t).map λks=>.eq d false true ks a b else none
  |some (.struct _),.neq=>if P.eqGuardType P.depth t=false then(pr P 9 t).map λks=>.eq d true true ks a b else none
  |some (.int _),_=>some (.bi d op a b)
  |some .string,_=>some (.bi d op a b)
  |some u,.eql=>(yN u y).map λk=>.mA d false k a
  |some u,.neq=>(yN u y).map λk=>.mA d true k a
  |_,_=>none
 |.unOp op _ x,some d=>(bO P 0 x).map (.un d op)
 |.convert src dst x,some d=>do
  let a <-bO P src x;match P.underlying src,P.underlying dst with
  |some (.int _),some (.int k)=>some (.ci d k a)
  |some .string,some (.slice e)=>match P.underlying e with
   |some (.int .u8)=>if dc P e=some 1 then some (.h' d a)else none
   |_=>none
  |some (.slice e),some .string=>match P.underlying e with
   |some (.int .u8)=>if dc P e=some 1 then some (.bs d a)else none
   |_=>none
  |_,_=>none
 |.makeFunc (.func f) first gI,some d=>do
  some (.wG d f (<-first.toList.mapM (bO P 0)) (<-gI.toList.mapM (bO P 0)))
 |.makeMap _ none,some d=>some (.mm d)
 |.slice t x lo hi mx,some d=>do
  let a <-bO P t x;match P.underlying t with
  |some .string=>if mx.isNone then some (.ss d a (<-nU P 0 lo) (<-nU P 0 hi))else none
  |some (.slice e)=>do
   let n <-dc P e;if dk d an.DX then(match x,lo,hi,mx with
    |.tmp s,some lo,none,none=>if decide (s≠d)then(bO P 0 lo).map (.so d s n)else none
    |_,_,_,_=>none)
   else if hi.isNone&&mx.isSome then none
   else some (.aN d n a (<-nU P 0 lo) (<-nU P 0 hi) (<-nU P 0 mx))
  |_=>none
 |.fieldAddr t x f,some d=>match P.underlying t with
  |some (.struct fs)=>match fs[f]? with
   |some f=>if (dc P f.type).any (λn=>decide (0<n))then(bO P 0 x).map λx=>.gK d x f.offset else none
   |none=>none
  |_=>none
 |.field t x f,some d=>match P.underlying t with
  |some (.struct fs)=>match fs[f]? with
   |some f=>do
    let n <-dc P f.type;let ai <-kq P f.type;let a <-bO P 0 x;if ai||decide (n=1)then some (.fd d a f.offset n ai)else none
   |none=>none
  |_=>none
 |.indexAddr t x i,some d=>do
  let a <-bO P t x;let j <-bO P 0 i;match P.underlying t with
  |some (.slice e)=>do
   let n <-dc P e;if decide (0<n)then some (.lQ d a j n)else none
  |some (.array len e)=>do
   let n <-dc P e;if decide (0<n)then some (.aa d a j len n)else none
  |_=>none
 |.index t x i,some d=>do
  let a <-bO P t x;let j <-bO P 0 i;match P.underlying t with
  |some .string=>some (.mz d a j)
  |some (.array len e)=>do
   let n <-dc P e;let ai <-kq P e;if ai||decide (n=1)then some (.wH d a j len n ai)else none
  |_=>none
 |.makeSlice t l c,some d=>do
  let e <-wN P t;let z <-zeros P e;let n <-dc P e;let b <-bytesOf P e;if HG l c&&decide (0<n)&&decide (0<b)then some (.mk d n z (<-bO P 0 l) (1099511627776/b))else none
 |.lookup t x k ok,some d=>do
  let a <-bO P t x;match P.underlying t with
  |some (.map fr nV)=>do
   let b <-bO P fr k;let eg <-zeroV P nV;let ks <-kinds P 10 fr;some (.aJ d (gp P fr) ks a b eg ok)
  |_=>none
 |.mapUpdate t x k v,none=>do
  let a <-bO P t x;match P.underlying t with
  |some (.map fr nV)=>do
   let ks <-kinds P 10 fr;some (.oz (gp P fr) ks a (<-bO P fr k) (<-bO P nV v))
  |_=>none
 |.extract x i,some d=>(bO P 0 x).map λx=>.ex d x i
 |.call c,d=>match c.callee with
  |.value f=>do
   let fp <-(c.args.toList.zipIdx).mapM λ(x,i)=>bO P (c.argTypes.getD i 0) x;match f with
   |.func g=>match HF P g,fp,d with
    |some k,[x,y],some d=>some (.cr d k x y)
    |_,fp,d=>some (.dH d (.c (.d (.fn g))) fp)
   |_=>some (.dH d (<-bO P 0 f) fp)
  |.builtin .len=>match c.args.toList,c.argTypes.toList,d with
   |[x],[t],some d=>match P.underlying t with
    |some .string=>(bO P t x).map (.ni d true)
    |some (.slice _)=>(bO P t x).map (.ni d false)
    |_=>none
   |_,_,_=>none
  |.builtin .append=>match c.args.toList,c.argTypes.toList,d with
   |[.tmp s,x],[t,u],some d=>do
    let e <-wN P t;let n <-dc P e;let b <-bytesOf P e;let _ <-zeros P e;let aeF:Bool:=match P.underlying u with
     |some (.slice _)|some .string=>true
     |_=>false
    let y <-bO P u x;if aeF&&decide (0<n)&&decide (0<b)then some (if dk d an.objs then .nj d s y n (140737488355328/b)else if dk d an.uW then .nk d s y n (140737488355328/b)else .ap d s y n (140737488355328/b))else none
   |_,_,_=>none
  |.builtin .clear=>match c.args.toList,c.argTypes.toList with
   |[x],[t]=>match P.underlying t with
    |some (.slice e)=>do
     let z <-zeros P e;some (.oA d (<-bO P t x) z)
    |_=>none
   |_,_=>none
  |.builtin .max=>match c.args.toList,d with
   |[x,y],some d=>do some (.qm d false (<-bO P o.type x) (<-bO P o.type y))
   |_,_=>none
  |.builtin .min=>match c.args.toList,d with
   |[x,y],some d=>do some (.qm d true (<-bO P o.type x) (<-bO P o.type y))
   |_,_=>none
  |_=>none
 |_,_=>none
def uY(m:fl)(o:Oper):fl:=match o.op,o.dst with
 |.fieldAddr t (.tmp s) f,some d=>match m.look s,partOf P t f with
  |some (b,off),some (o,_)=>(d,b,off+o)::m
  |_,_=>m
 |_,_=>m
def pw(ops:Array Oper)(o:Oper):Option (Option (Nat×Bool)):=match o.guard with
 |none=>some none
 |some (j,w)=>match (ops[j]?).bind (·.dst)with
  |some s=>some (some (s,w))
  |none=>none
def kr(nt:Nat)(o:Oper):Bool:=match o.dst with
 |some d=>Nat.blt d nt
 |none=>true
def A9(an:eo)(cY cO eH:Oper):Option (Nat×I×Nat):=match cY.op,cY.dst,cO.op,cO.dst,eH.op,eH.dst with
 |.call c,some d,.indexAddr t2 (.tmp d2) (.tmp i),some aF,.store t3 (.tmp aZ) x,none=>match c.callee,c.args.toList,c.argTypes.toList with
  |.builtin .append,[.tmp s,.tmp z],[t,u]=>do
   let e <-wN P t;let e' <-wN P u;let n <-dc P e;let b <-bytesOf P e;let _ <-zeros P e;let y <-bO P t3 x;if decide (t2=t)&&decide (e'=e)&&decide (t3=e)&&decide (d2=d)&&decide (aZ=aF)&&decide (d≠i)&&decide (aF≠d)&&!dk aF y.slots&&!dk d y.slots&&!dk aF [s,z,i]&&!dk d an.objs&&decide (1<n)&&decide (0<b)&&cY.guard.isNone&&cO.guard.isNone&&eH.guard.isNone then
    some (d,.kO d s z i y n (140737488355328/b),aF)
   else none
  |_,_,_=>none
 |_,_,_,_,_,_=>none
def wO(an:eo)(nt:Nat)(all:Array Oper)(m:fl)(o:Oper):Option cf:=
 match (match jh P an m o with|some i=>some i|none=>some (.bad o.dst)),pw all o with
 |some i,some g=>if kr nt o&&decide (i.dst=o.dst)then some ⟨g,i⟩else none
 |_,_=>none
def hH(an:eo)(nt:Nat)(all:Array Oper):fl->List Oper->Option (List cf)
 |_,[]=>some []
 |m,cY::cO::eH::l=>match A9 P an cY cO eH with
  |some (d,i,e)=>if Nat.blt d nt&&Nat.blt e nt then match hH an nt all m l with
    |some is=>some (⟨none,i⟩::⟨none,.lR (some e)⟩::⟨none,.lR none⟩::is)
    |none=>none
   else none
  |none=>match wO P an nt all m cY,hH an nt all (uY P m cY) (cO::eH::l)with
   |some g,some is=>some (g::is)
   |_,_=>none
 |m,o::l=>match wO P an nt all m o,hH an nt all (uY P m o) l with
  |some g,some is=>some (g::is)
  |_,_=>none
def boxes(an:eo):Code->fl
 |.region _ ops _=>ops.toList.filterMap λo=>match o.op,o.dst with
  |.alloc _,some d|.box _ _,some d=>if dk d an.heap then none else some (d,d,0)
  |_,_=>none
 |.seq a b=>boxes an a++boxes an b
 |.cond _ a b=>boxes an a++boxes an b
 |.block _ b=>boxes an b
 |.loop b=>boxes an b
 |_=>[]
def kS(ops:Array Oper)(i:Nat):Nat->Nat->Bool
 |0,_=>false
 |n+1,j=>match ops[j]? with
  |some o=>o.after.toList.any λe=>Region.binds .any e&&(Nat.beq e.on i||kS ops i n e.on)
  |none=>false
def uZ(ops:Array Oper):Bool:=(List.range ops.size).all λj=>match ops[j]? with
 |some o=>o.after.toList.all λe=>!Region.binds .any e||Nat.blt e.on j
 |none=>true
def rM:I->Bool
 |.aO .. |.nn .. |.so .. |.pg .. =>true
 |.mA _ _ k _=>Nat.beq k 0
 |_=>false
def oF:I->Bool
 |.kO .. =>true
 |_=>false
def rN(is:List cf):Option Nat:=is.findIdx? λg=>oF g.i
def D1(e:Nat)(bar:List Nat)(o:Oper)(g:cf):Bool:=o.guard.isNone&&!dk e g.rd&&(match o.dst with|some d=>!dk d bar|none=>true)&&(match o.op with
 |.fieldAddr _ (.tmp _) _=>true
 |.store _ (.tmp _) _=>true
 |_=>false)
def D2(ops:Array Oper)(is:List cf)(k:Nat):Bool:=match is[k]? with
 |some ⟨_,.kO d s z i x _ _⟩=>match is[k+1]? with
  |some ⟨_,.lR (some e)⟩=>
   ((List.range k).all λj=>kS ops j ops.size k)&&
   ((List.range ops.size).all λj=>Nat.ble j k||kS ops k ops.size j)&&kS ops (k+1) ops.size (k+2)&&
   ((List.range ops.size).all λj=>Nat.blt j (k+3)||(match ops[j]?,is[j]? with
    |some o,some g=>D1 e (e::d::s::z::i::x.slots) o g
    |_,_=>false))
  |_=>false
 |_=>false
def yP(t:Option Nat)(i j:Nat):Bool:=match t with
 |some k=>(Nat.beq i (k+1)||Nat.beq i (k+2))&&Nat.blt (k+2) j
 |none=>false
def HI(ops:Array Oper)(is:List cf)(i j:Nat):Option Bool:=match is[i]?,is[j]? with
 |some x,some y=>if kS ops i ops.size j||yP (rN is) i j then some false else if yJ x y then some (!DS x y)else none
 |_,_=>none
def A'(ops:Array Oper)(is:List cf)(j:Nat):Nat->Option (List Nat)
 |0=>some []
 |i+1=>match A' ops is j i,HI ops is i j with
  |some l,some b=>some (cond b (i::l) l)
  |_,_=>none
def Ba(ops:Array Oper)(is:List cf):Nat->Option (List (List Nat))
 |0=>some []
 |j+1=>match Ba ops is j,A' ops is j j with
  |some l,some c=>some (l++[c])
  |_,_=>none
def N0(ops:Array Oper)(is:List cf):Option (List (List Nat)):=
 if P.follows .mixedOrders&&uZ ops&&is.all (λg=>!rM g.i)&&(match rN is with|some k=>D2 ops is k|none=>true)then Ba ops is ops.size else none
def Bb(ops:Array Oper):Bool:=
 decide (ops.size=4)&&decide (Region.ready .any ops #[false,false,false,false]=[0])&&decide (Region.ready .any ops #[true,false,false,false]=[1,2])&&
 decide (Region.ready .any ops #[true,true,false,false]=[2])&&decide (Region.ready .any ops #[true,false,true,false]=[1])&&
 decide (Region.ready .any ops #[true,true,true,false]=[3])&&decide (Region.ready .any ops #[true,true,true,true]=[])
def HJ(ops:Array Oper)(is:List cf):Option eG:=match is with
 |[⟨none,.kN d [.d (.bool z)]⟩,⟨none,.ls (.t d1) d2 0 (.c (.d (.bool bJ))) 1⟩,⟨none,.ls (.t d3) d4 0 (.c (.d (.bool a6))) 1⟩,⟨none,.hX e (.t d5) d6 0 1 false⟩]=>
  if P.follows .mixedOrders&&Bb ops&&decide (d1=d)&&decide (d2=d)&&decide (d3=d)&&decide (d4=d)&&decide (d5=d)&&decide (d6=d)&&decide (e≠d)then
   some (.seq (.any [⟨none,.mA e false 0 (.c (.own 1 []))⟩] [[]]) (.cond (.t e)
    (.ops [⟨none,.kN d [.d (.bool z)]⟩,⟨none,.ls (.t d) d 0 (.c (.d (.bool bJ))) 1⟩,⟨none,.ls (.t d) d 0 (.c (.d (.bool a6))) 1⟩,⟨none,.hX e (.t d) d 0 1 false⟩])
    (.ops [⟨none,.kN d [.d (.bool z)]⟩,⟨none,.ls (.t d) d 0 (.c (.d (.bool a6))) 1⟩,⟨none,.ls (.t d) d 0 (.c (.d (.bool bJ))) 1⟩,⟨none,.hX e (.t d) d 0 1 false⟩])))
  else none
 |_=>none
def kt:eG->Bool
 |.skip|.ops _|.exit _|.ret|.bad=>true
 |.seq a b=>kt a&&kt b
 |.cond _ a b=>kt a&&kt b
 |.block _ b=>kt b
 |_=>false
def dm(an:eo)(nt:Nat)(m:fl):Code->List (List Nat×List Nat)->Option (eG×List (List Nat×List Nat))
 |.skip,l=>some (.skip,l)
 |.region _ ops drawn,l=>match hH P an nt ops m ops.toList with
  |some is=>if drawn then(match N0 P ops is with|some dy=>some (.any is dy,l)|none=>match HJ P ops is with|some c=>some (c,l)|none=>some (.bad,l))else some (.ops is,l)
  |none=>none
 |.seq a b,l=>match dm an nt m a l with
  |some (x,l)=>match dm an nt m b l with
   |some (y,l)=>some (.seq x y,l)
   |none=>none
  |none=>none
 |.cond c a b,l=>match bO P 0 c,dm an nt m a l with
  |some o,some (x,l)=>match dm an nt m b l with
   |some (y,l)=>some (.cond o x y,l)
   |none=>none
  |_,_=>none
 |.block i b,l=>match dm an nt m b l with
  |some (x,l)=>some (.block i x,l)
  |none=>none
 |.loop b,(ts,bs)::l=>match dm an nt m b l with
  |some (x,l)=>some (.loop ts bs x,l)
  |none=>none
 |.rangeFunc f ps a b,l=>match bO P 0 f,dm an nt m a l,dm an nt m b l with
  |some x,some (j0,_),some (j1,_)=>if kt j0&&kt j1&&ps.toList.all (λp=>Nat.blt p nt)then some (.ia x ps.toList j0 j1,l)else none
  |_,_,_=>none
 |.exit i,l=>some (.exit i,l)
 |.ret,l=>some (.ret,l)
 |.refuse _,l=>some (.bad,l)
 |_,_=>none
def yQ(an:eo):ResultVar->Option oB
 |.tmp t=>some (.t t)
 |.cell t ty=>do
  let n <-dc P ty;let ai <-kq P ty;if ai||decide (n=1)then some (if dk t an.heap then .h t n ai else .b t n ai)else none
def yR(an:eo)(l:List ResultVar):Option (List oB):=match an.own,l with
 |true,[.tmp t]=>some [.o t]
 |true,_=>none
 |false,l=>l.mapM (yQ P an)
def u0(an:eo)(fn:Func):Option aX:=do
 let c <-fn.body;let (x,_) <-dm P an fn.ntmps (boxes an c) c an.live;let r <-yR P an fn.results.toList;some ⟨x,r⟩
end
def aBQ:=@List.getElem?_take
def aAZ:=@Nat.le_trans
def aA1:=@Nat.lt_or_ge
def aAI:=@Nat.lt_of_lt_of_le
theorem axY(h:p:=by simp_all):p:=h
theorem axZ(h:p:=by grind):p:=h
theorem ayO(h:p:=by simp[h.length]):p:=h
inductive h4{α β:Type}(R:α->β->Prop):List α->List β->Prop
 |nil:h4 R [] []
 |cons {x:α} {y:β} {xs:List α} {ys:List β}:R x y->h4 R xs ys->h4 R (x::xs) (y::ys)
inductive Loc where
 |slot (t:Nat)|rO (t j:Nat)|rP (t:Nat)|du (i j:Nat)|obj (i:Nat)|res|foreign
 deriving DecidableEq
abbrev bI:=Nat->Option (Loc×Nat)
def HK(G:bI)(b off:Nat):Prop:=∀L n,G b=some (L,n)->off<n
def Cell(w:World)(G:bI)(b off:Nat)(v:Value):Prop:=w.cell? ⟨b,off,none⟩=some v/\HK G b off/\v.oneCell'=true
def iT(w:World)(G:bI)(b off:Nat)(vs:List Value):Prop:=∀j v,vs[j]?=some v->Cell w G b (off+j) v
def aeG:Obj->Bool
 |.cells .. |.map .. =>true
 |_=>false
def yS(w:World)(G:bI)(b:Nat)(o:Obj):Prop:=G b=none/\aeG o=true/\w.heap[b]?=some o
def D3(w:World)(G:bI)(b:Nat)(ks vs:List Value):Prop:=
 ∃mes clock,yS w G b (.map mes clock)/\mes.toList.map (·.key)=ks/\mes.toList.map (·.val)=vs
def tc(w:World)(b n:Nat):Prop:=∃(c:Array Value) (E:TypeId) (fz:Nat×Nat),w.heap[b]?=some (.cells c E fz)/\n<=c.size
def da(w:World)(G:bI)(w':World)(G':bI):Prop:=(∀b off v,Cell w G b off v->Cell w' G' b off v)/\(∀b o,yS w G b o->yS w' G' b o)/\∀b n,tc w b n->tc w' b n
abbrev yT(ks vs:List D):List (D×ah):=(ks.zip vs).map λe=>(e.1,.d e.2)
def HL(kl vl ks vs:List D):Prop:=∀(ai:Bool) (lT:List Nat) (k:D),
 (e3 ai lT k (yT ks vs) 0=some none->e3 ai lT k (yT kl vl) 0=some none)/\
 ∀j d,e3 ai lT k (yT ks vs) 0=some (some j)->vs[j]?=some d->∃ku,e3 ai lT k (yT kl vl) 0=some (some ku)/\vl[ku]?=some d
mutual
inductive Rd(w:World)(G:bI):Value->D->Prop
 |bool (b:Bool):Rd w G (.bool b) (.bool b)
 |int (k:IntKind) (n:Int):Rd w G (.int k n) (.int k n)
 |str (s:ByteArray) (l:List UInt8):s.data.toList=l->Rd w G (.string s) (.str l)
 |dP:Rd w G (.pointer none) .dP
 |hS:Rd w G (.map none) .hS
 |ll:Rd w G .nilFunc .ll
 |iy:Rd w G .nilIface .iy
 |fn (f:Nat):Rd w G (.func (.func f) #[] #[]) (.fn f)
 |iface (t:Nat) (v:Value) (x:D):Rd w G v x->Rd w G (.iface t v) (.iface t x)
 |hT (t:Nat) (v:Value):Rd w G (.iface t v) .hT
 |ln (b:Nat) (td tf:List Value) (kl vl ks vs:List D):D3 w G b td tf->cl w G td kl->cl w G tf vl->HL kl vl ks vs->Rd w G (.map (some b)) (.ln ks vs)
 |agg (vs:List Value) (cs:List D):cl w G vs cs->Rd w G (.agg ⟨vs⟩) (.agg cs)
 |kT (a:Option Addr) (cap sz:Nat):Rd w G (.slice a 0 cap) (.list sz [])
 |list (b off n cap sz:Nat) (l:List D) (vs:List Value):n=l.length->n<=cap->(∀d,d∈l->d.cells.length=sz)->iT w G b off vs->cl w G vs (l.flatMap D.cells)->
   Rd w G (.slice (some ⟨b,off,none⟩) n cap) (.list sz l)
 |e1 (b base off:Nat) (vs:List Value) (cs:List D):iT w G b base vs->cl w G vs cs->Rd w G (.pointer (some ⟨b,base+off,none⟩)) (.e1 cs off)
inductive cl(w:World)(G:bI):List Value->List D->Prop
 |nil:cl w G [] []
 |cons (v:Value) (x:D) (vs:List Value) (xs:List D):Rd w G v x->cl w G vs xs->cl w G (v::vs) (x::xs)
end
section
variable {w w':World}{G G':bI}
theorem D3.keep(aq:da w G w' G'){b:Nat}{ks vs:List Value}(h:D3 w G b ks vs):D3 w' G' b ks vs:=by
 obtain⟨mes,clock,h1,sh⟩:=h;exact⟨mes,clock,aq.2.1 _ _ h1,sh⟩
theorem iT.keep(aq:da w G w' G'){b off:Nat}{vs:List Value}(h:iT w G b off vs):iT w' G' b off vs:=
 λj v hv=>aq.1 _ _ _ (h j v hv)
mutual
theorem Rd.keep(aq:da w G w' G'):∀{v:Value} {x:D},Rd w G v x->Rd w' G' v x
 |_,_,.bool b=>.bool b
 |_,_,.int k n=>.int k n
 |_,_,.str s l h=>.str s l h
 |_,_,.dP=>.dP
 |_,_,.hS=>.hS
 |_,_,.ll=>.ll
 |_,_,.iy=>.iy
 |_,_,.fn f=>.fn f
 |_,_,.iface t v x h=>.iface t v x (Rd.keep aq h)
 |_,_,.hT t v=>.hT t v
 |_,_,.ln b td tf kl vl ks vs h1 sh av aW=>.ln b td tf kl vl ks vs (h1.keep aq) (cl.keep aq sh) (cl.keep aq av) aW
 |_,_,.agg vs cs h=>.agg vs cs (cl.keep aq h)
 |_,_,.kT a cap sz=>.kT a cap sz
 |_,_,.list b off n cap sz l vs h1 sh av aW bL=>.list b off n cap sz l vs h1 sh av (aW.keep aq) (cl.keep aq bL)
 |_,_,.e1 b base off vs cs h1 sh=>.e1 b base off vs cs (h1.keep aq) (cl.keep aq sh)
theorem cl.keep(aq:da w G w' G'):∀{vs:List Value} {xs:List D},cl w G vs xs->cl w' G' vs xs
 |_,_,.nil=>.nil
 |_,_,.cons v x vs xs h1 sh=>.cons v x vs xs (Rd.keep aq h1) (cl.keep aq sh)
end
theorem cl.length{vs:List Value}{xs:List D}(h:cl w G vs xs):vs.length=xs.length:=by
 induction vs generalizing xs with
 |nil=>cases h;rfl
 |cons v vs ih=>cases h with|cons _ _ _ _ _ sh=>grind
theorem cl.get{vs:List Value}{xs:List D}(h:cl w G vs xs):∀{j:Nat} {v:Value} {x:D},vs[j]?=some v->xs[j]?=some x->Rd w G v x:=by
 induction vs generalizing xs with
 |nil=>simp
 |cons a vs ih=>
  cases h with
  |cons _ y _ ys h1 sh=>
   grind
theorem cl.mk:∀{vs:List Value} {xs:List D},vs.length=xs.length->(∀(j:Nat) (v:Value) (x:D),vs[j]?=some v->xs[j]?=some x->Rd w G v x)->cl w G vs xs
 |[],[],_,_=>.nil
 |[],_::_,h,_=>axZ
 |_::_,[],h,_=>axZ
 |v::vs,x::xs,h,ax=>.cons v x vs xs (ax 0 v x rfl rfl) (cl.mk axY λj u y hu wa=>ax (j+1) u y axY axY)
theorem cl.append{vs us:List Value}{xs ys:List D}(h:cl w G vs xs)(sh:cl w G us ys):cl w G (vs++us) (xs++ys):=by
 induction vs generalizing xs with
 |nil=>cases h;simp_all
 |cons v vs ih=>cases h with|cons _ _ _ _ a b=>exact .cons _ _ _ _ a (ih b)
theorem cl.drop{vs:List Value}{xs:List D}(h:cl w G vs xs)(n:Nat):cl w G (vs.drop n) (xs.drop n):=
 .mk ayO λj v x hv ak=>h.get (by simpa using hv) axY
theorem cl.take{vs:List Value}{xs:List D}(h:cl w G vs xs)(n:Nat):cl w G (vs.take n) (xs.take n):=
 .mk ayO λj v x hv ak=>by
  rw[aBQ]at hv ak;split at hv
  .rename_i aK;grind[get]
  simp_all
end
mutual
inductive df(w:World)(G:bI)(ρ:List Nat):Value->ah->Prop
 |undef (v:Value):df w G ρ v .undef
 |d (v:Value) (x:D):Rd w G v x->df w G ρ v (.d x)
 |nil (a:Option Addr) (sz:Nat):df w G ρ (.slice a 0 0) (.own sz [])
 |ptr (i off b:Nat):ρ[i]?=some (b+1)->df w G ρ (.pointer (some ⟨b,off,none⟩)) (.ptr i off)
 |map (i b:Nat):ρ[i]?=some (b+1)->df w G ρ (.map (some b)) (.map i)
 |aN (i off len cap eu sz b:Nat):ρ[i]?=some (b+1)->cap<=eu->tc w b (off+eu*sz)->df w G ρ (.slice (some ⟨b,off,none⟩) len eu) (.aN i off len cap sz)
 |func (f:Nat) (fp cs:List Value) (a c:List ah):ck w G ρ fp a->ck w G ρ cs c->df w G ρ (.func (.func f) ⟨fp⟩ ⟨cs⟩) (.func f a c)
 |agg (vs:List Value) (cs:List ah):ck w G ρ vs cs->df w G ρ (.agg ⟨vs⟩) (.agg cs)
 |tuple (vs:List Value) (cs:List ah):ck w G ρ vs cs->df w G ρ (.tuple ⟨vs⟩) (.tuple cs)
 |fY (i l:Nat):ρ[i]?=some (l+1)->df w G ρ (.func (.yield l) #[] #[]) (.fY i)
inductive ck(w:World)(G:bI)(ρ:List Nat):List Value->List ah->Prop
 |nil:ck w G ρ [] []
 |cons (v:Value) (x:ah) (vs:List Value) (xs:List ah):df w G ρ v x->ck w G ρ vs xs->ck w G ρ (v::vs) (x::xs)
end
section
variable {w w':World}{G G':bI}{ρ ρ':List Nat}
mutual
theorem df.keep(aq:da w G w' G')(cN:∀i b:Nat,ρ[i]?=some (b+1)->ρ'[i]?=some (b+1)):∀{v:Value} {x:ah},df w G ρ v x->df w' G' ρ' v x
 |_,_,.undef v=>.undef v
 |_,_,.d v x h=>.d v x (h.keep aq)
 |_,_,.nil a sz=>.nil a sz
 |_,_,.ptr i off b h=>.ptr i off b (cN _ _ h)
 |_,_,.map i b h=>.map i b (cN _ _ h)
 |_,_,.aN i off len cap eu sz b h az aO=>.aN i off len cap eu sz b (cN _ _ h) az (aq.2.2 _ _ aO)
 |_,_,.func f fp cs a c h1 sh=>.func f fp cs a c (ck.keep aq cN h1) (ck.keep aq cN sh)
 |_,_,.agg vs cs h=>.agg vs cs (ck.keep aq cN h)
 |_,_,.tuple vs cs h=>.tuple vs cs (ck.keep aq cN h)
 |_,_,.fY i l h=>.fY i l (cN _ _ h)
theorem ck.keep(aq:da w G w' G')(cN:∀i b:Nat,ρ[i]?=some (b+1)->ρ'[i]?=some (b+1)):∀{vs:List Value} {xs:List ah},ck w G ρ vs xs->ck w' G' ρ' vs xs
 |_,_,.nil=>.nil
 |_,_,.cons v x vs xs h1 sh=>.cons v x vs xs (df.keep aq cN h1) (ck.keep aq cN sh)
end
theorem ck.length{vs:List Value}{xs:List ah}(h:ck w G ρ vs xs):vs.length=xs.length:=by
 induction vs generalizing xs with
 |nil=>cases h;rfl
 |cons v vs ih=>cases h with|cons _ _ _ _ _ sh=>grind
theorem ck.get{vs:List Value}{xs:List ah}(h:ck w G ρ vs xs):∀{j:Nat} {v:Value} {x:ah},vs[j]?=some v->xs[j]?=some x->df w G ρ v x:=by
 induction vs generalizing xs with
 |nil=>simp
 |cons a vs ih=>
  cases h with
  |cons _ y _ ys h1 sh=>
   grind
theorem ck.mk:∀{vs:List Value} {xs:List ah},vs.length=xs.length->(∀(j:Nat) (v:Value) (x:ah),vs[j]?=some v->xs[j]?=some x->df w G ρ v x)->ck w G ρ vs xs
 |[],[],_,_=>.nil
 |[],_::_,h,_=>axZ
 |_::_,[],h,_=>axZ
 |v::vs,x::xs,h,ax=>.cons v x vs xs (ax 0 v x rfl rfl) (ck.mk axY λj u y hu wa=>ax (j+1) u y axY axY)
theorem ck.append{vs us:List Value}{xs ys:List ah}(h:ck w G ρ vs xs)(sh:ck w G ρ us ys):ck w G ρ (vs++us) (xs++ys):=by
 induction vs generalizing xs with
 |nil=>cases h;simp_all
 |cons v vs ih=>cases h with|cons _ _ _ _ a b=>exact .cons _ _ _ _ a (ih b)
theorem ck.drop{vs:List Value}{xs:List ah}(h:ck w G ρ vs xs)(n:Nat):ck w G ρ (vs.drop n) (xs.drop n):=
 .mk ayO λj v x hv ak=>h.get (by simpa using hv) axY
theorem ck.take{vs:List Value}{xs:List ah}(h:ck w G ρ vs xs)(n:Nat):ck w G ρ (vs.take n) (xs.take n):=
 .mk ayO λj v x hv ak=>by
  rw[aBQ]at hv ak;split at hv
  .rename_i aK;grind[get]
  simp_all
theorem cl.D4{vs:List Value}{xs:List D}(h:cl w G vs xs):ck w G ρ vs (xs.map .d):=
 .mk ayO λj v x hv ak=>by
  simp at ak;obtain⟨y,wa,rfl⟩:=ak;exact .d _ _ (h.get hv wa)
end
def lU(w:World)(G:bI)(L:Loc)(v:Value)(sz:Nat)(l:List D):Prop:=
 ∃(b off cap:Nat) (c:Array Value) (E:TypeId) (fz:Nat×Nat) (vs:List Value),
  v=.slice (some ⟨b,off,none⟩) l.length cap/\l.length<=cap/\w.heap[b]?=some (.cells c E fz)/\(∀j,j<c.size->¬(fz.1<=j/\j<fz.2))/\
  off+cap*sz<=c.size/\0<sz/\G b=some (L,off+l.length*sz)/\(∀d,d∈l->d.cells.length=sz)/\iT w G b off vs/\cl w G vs (l.flatMap D.cells)
def px(w:World)(G:bI)(L:Loc)(v:Value)(sz n:Nat)(cs:List fc):Prop:=
 ∃(b cap:Nat) (c:Array Value) (E:TypeId) (fz:Nat×Nat) (vs:List Value),
  v=.slice (some ⟨b,0,none⟩) n cap/\n<=cap/\w.heap[b]?=some (.cells c E fz)/\(∀j,j<c.size->¬(fz.1<=j/\j<fz.2))/\
  cap*sz<=c.size/\0<sz/\G b=some (L,0)/\vs.length=n*sz/\(∀(j:Nat) (u:Value),vs[j]?=some u->c[j]?=some u/\u.oneCell'=true)/\ck w G [] vs (jB cs)
def dn(w:World)(G:bI)(ρ:List Nat)(L:Loc)(v:Value):ah->Prop
 |.own sz (d::l)=>lU w G L v sz (d::l)
 |.gJ sz=>lU w G L v sz []\/∃cF,v=.slice cF 0 0
 |.raw sz n cs=>px w G L v sz n cs
 |x=>df w G ρ v x
def di(w:World)(G:bI)(ρ:List Nat)(lam:Nat->Option Nat)(L:Loc)(v:Value):ah->Prop
 |.dT t off=>∃b,lam t=some b/\v=.pointer (some ⟨b,off,none⟩)
 |x=>dn w G ρ L v x
def dM(w:World)(G:bI)(ρ:List Nat)(b:Nat)(L:Loc)(LC:Nat->Loc)(cs:List ah):Prop:=
 ∃(c:Array Value) (E:TypeId) (fz:Nat×Nat),w.heap[b]?=some (.cells c E fz)/\(∀j,j<c.size->¬(fz.1<=j/\j<fz.2))/\G b=some (L,0)/\cs.length<=c.size/\
  ∀j v x,c[j]?=some v->cs[j]?=some x->dn w G ρ (LC j) v x
def kv(w:World)(G:bI)(ρ:List Nat)(i b:Nat):b9->Prop
 |.box cs=>dM w G ρ b (.obj i) (.du i) cs
 |.map es=>∃mes clock,w.heap[b]?=some (.map mes clock)/\G b=some (.obj i,0)/\mes.size=es.length/\
   ∀(j:Nat) (e:MapEntry) (p:D×ah),mes[j]?=some e->es[j]?=some p->Rd w G e.key p.1/\df w G ρ e.val p.2
 |.dead=>True
 |.hU t e bs=>∃p v:Value,w.heap[b]?=some (.cells #[p,v] t (0,0))/\G b=some (.obj i,0)/\(p=.pointer none\/p=.pointer (some ⟨b,0,none⟩))/\
   ((v=.slice none 0 0/\bs=[])\/∃(g cap:Nat) (c:Array Value) (fz:Nat×Nat),v=.slice (some ⟨g,0,none⟩) bs.length cap/\w.heap[g]?=some (.cells c e fz)/\G g=some (.du i 1,0)/\fz.2<=bs.length/\bs.length<=cap/\cap<=maxLen/\c.size=cap/\
    c.toList.take bs.length=bs.map λx=>.int .u8 x.toNat)
 |.rE m=>(∃(since last:Nat),w.heap[b]?=some (.mapIter none since #[] last)/\G b=some (.obj i,0)/\m=none)\/
   ∃(k a6 since last:Nat),m=some k/\ρ[k]?=some (a6+1)/\w.heap[b]?=some (.mapIter (some a6) since #[] last)/\G b=some (.obj i,0)
def ht(w:World)(G:bI)(ρ:List Nat)(s:aU):Prop:=
 ρ.length=s.length/\∀i b o,ρ[i]?=some (b+1)->s[i]?=some o->kv w G ρ i b o
def py(gl:Nat->List D)(w:World)(G:bI):Prop:=(∀g,Rd w G (.pointer (some ⟨g,0,none⟩)) (.e1 (gl g) 0))/\∀g,(gl g).length=0\/∃c E fz,yS w G g (.cells c E fz)/\c.size=(gl g).length
structure Good(w:World)(G:bI)(w':World)(G':bI):Prop where
 size:w.heap.size<=w'.heap.size
 iB:∀b,b<w.heap.size->(G b=none\/∃n,G b=some (.foreign,n))->w'.heap[b]?=w.heap[b]?/\G' b=G b
 new:∀b n,w.heap.size<=b->G' b≠some (.foreign,n)
 old:∀b n,b<w.heap.size->G' b=some (.foreign,n)->G b=some (.foreign,n)
 keep:da w G w' G'
 os:w'.os=w.os
 out:w'.output=w.output
theorem da.refl(w:World)(G:bI):da w G w G:=⟨λ_ _ _ h=>h,λ_ _ h=>h,λ_ _ h=>h⟩
theorem da.trans{w w' Bc:World}{G G' Bd:bI}(h:da w G w' G')(cG:da w' G' Bc Bd):da w G Bc Bd:=⟨λ_ _ _ c=>cG.1 _ _ _ (h.1 _ _ _ c),λ_ _ c=>cG.2.1 _ _ (h.2.1 _ _ c),λ_ _ c=>cG.2.2 _ _ (h.2.2 _ _ c)⟩
theorem Good.trans{w w' Bc:World}{G G' Bd:bI}(h:Good w G w' G')(cG:Good w' G' Bc Bd):Good w G Bc Bd where
 size:=aAZ h.size cG.size
 iB b au dA:=by
  obtain⟨h1,sh⟩:=h.iB b au dA;grind[iB]
 new b n au dA:=by
  rcases aA1 b w'.heap.size with aA|kx
  all_goals grind[new,old]
 old b n au dA:=h.old b n au (cG.old b n (aAI au h.size) dA)
 keep:=h.keep.trans cG.keep
 os:=cG.os.trans h.os
 out:=cG.out.trans h.out
structure bS(gl:Nat->List D)(w:World)(G:bI)(ρ:List Nat)(lam:Nat->Option Nat)(tmps:Array Value)(st:ag):Prop where
 aR:∀t,di w G ρ lam (.slot t) (tmps.getD t undef) (st.aR t)
 bH:∀t cs,st.bH t=some cs->∃b,lam t=some b/\dM w G ρ b (.rP t) (.rO t) cs
 nb:∀t,st.bH t=none->lam t=none
 ob:ht w G ρ st.s
 eU:py gl w G
 lt:∀b L n,G b=some (L,n)->b<w.heap.size
def aBH:=@Bool.eq_false_iff
def aAe:=@Option.some.injEq
def aB4:=@Nat.add_assoc
def aA2:=@Nat.zero_add
def aCR:=@List.zip_cons_cons
def aB5:=@List.all_cons
def aAc:=@Bool.and_eq_true
def aA0:=@Option.map_eq_some_iff
def aAt:=@Ne.symm
theorem iC{α:Type}(f:Nat->α)(k:Nat)(v:α):cC f k v k=v:=by simp[cC]
theorem nq{α:Type}(f:Nat->α){k j:Nat}(v:α)(h:j≠k):cC f k v j=f j:=by
 have:Nat.beq j k=false:=by simp_all[aBH]
 grind[cC]
theorem dh{α:Type}(f:Nat->α)(k j:Nat)(v:α):cC f k v j=if j=k then v else f j:=by
 grind[iC,nq]
def e4(L L':Loc)(w:World)(G:bI)(w':World)(G':bI):Prop:=∀b n,G b=some (L,n)->w'.heap[b]?=w.heap[b]?/\G' b=some (L',n)
section
variable {w w':World}{G G':bI}{ρ ρ':List Nat}{lam:Nat->Option Nat}{L L':Loc}
theorem dn.cp{v:Value}{x:ah}(h:df w G ρ v x):dn w G ρ L v x:=by
 cases h<;>first|exact .undef _|exact .d _ _ ‹_› |exact .nil _ _|exact .ptr _ _ _ ‹_› |exact .map _ _ ‹_› |exact .aN _ _ _ _ _ _ _ ‹_› ‹_› ‹_› |exact .func _ _ _ _ _ ‹_› ‹_› |exact .agg _ _ ‹_› |exact .tuple _ _ ‹_› |exact .fY _ _ ‹_›
def rQ(w:World)(G:bI)(L:Loc)(v:Value)(sz:Nat)(l:List D):Prop:=lU w G L v sz l\/(l=[]/\∃cF,v=.slice cF 0 0)
theorem dn.cases{v:Value}{x:ah}(h:dn w G ρ L v x):df w G ρ v x\/(∃sz l,x=iz sz l/\rQ w G L v sz l)\/∃sz n cs,x=.raw sz n cs/\px w G L v sz n cs:=by
 unfold dn at h;split at h
 .exact .inr (.inl ⟨_,_::_,rfl,.inl h⟩)
 .exact .inr (.inl ⟨_,[],rfl,h.imp id λh=>⟨rfl,h⟩⟩)
 all_goals grind
theorem dn.yU{v:Value}{sz:Nat}{l:List D}(h:rQ w G L v sz l):dn w G ρ L v (iz sz l):=by
 cases l with
 |nil=>exact h.imp id λh=>h.2
 |cons _ _=>exact h.elim id λh=>axZ
theorem dn.N1{v:Value}{sz:Nat}{l:List D}(h:lU w G L v sz l):dn w G ρ L v (iz sz l):=.yU (.inl h)
theorem HM{x:ah}{sz:Nat}{l:List D}:cT x≠iz sz l:=by
 intro e;cases x<;>cases l<;>simp[cT,iz]at e<;>(grind)
theorem HN{x:ah}{sz n:Nat}{cs:List fc}:cT x≠.raw sz n cs:=by
 intro e;cases x<;>simp[cT]at e<;>(grind)
theorem di.lV{v:Value}{x:ah}(h:dn w G ρ L v x):di w G ρ lam L v x:=by
 rcases h.cases with h|⟨sz,l,rfl,eA⟩|⟨sz,n,us,rfl,ch⟩
 .cases h<;>first|exact .undef _|exact .d _ _ ‹_› |exact .nil _ _|exact .ptr _ _ _ ‹_› |exact .map _ _ ‹_› |exact .aN _ _ _ _ _ _ _ ‹_› ‹_› ‹_› |exact .func _ _ _ _ _ ‹_› ‹_› |exact .agg _ _ ‹_› |exact .tuple _ _ ‹_› |exact .fY _ _ ‹_›
 .cases l<;>exact dn.yU (ρ:=ρ) eA
 .exact ch
theorem di.cp{v:Value}{x:ah}(h:df w G ρ v x):di w G ρ lam L v x:=.lV (.cp h)
theorem di.cases{v:Value}{x:ah}(h:di w G ρ lam L v x):dn w G ρ L v x\/∃t off b,x=.dT t off/\lam t=some b/\v=.pointer (some ⟨b,off,none⟩):=by
 unfold di at h;grind
theorem lU.bR(aq:da w G w' G')(hs:e4 L L' w G w' G'){v:Value}{sz:Nat}{l:List D}(h:lU w G L v sz l):lU w' G' L' v sz l:=by
 obtain⟨b,off,cap,c,E,fz,vs,h1,sh,av,aW,bL,cW,hx,hI,iD,kU⟩:=h;obtain⟨aj,aF⟩:=hs _ _ hx;exact⟨b,off,cap,c,E,fz,vs,h1,sh,aj.trans av,aW,bL,cW,aF,hI,iD.keep aq,kU.keep aq⟩
theorem px.bR(aq:da w G w' G')(hs:e4 L L' w G w' G'){v:Value}{sz n:Nat}{cs:List fc}(h:px w G L v sz n cs):px w' G' L' v sz n cs:=by
 obtain⟨b,cap,c,E,fz,vs,h1,sh,av,aW,bL,cW,hx,hI,iD,kU⟩:=h;obtain⟨aj,aF⟩:=hs _ _ hx;exact⟨b,cap,c,E,fz,vs,h1,sh,aj.trans av,aW,bL,cW,aF,hI,iD,kU.keep aq (λ_ _ h=>h)⟩
theorem rQ.bR(aq:da w G w' G')(hs:e4 L L' w G w' G'){v:Value}{sz:Nat}{l:List D}(h:rQ w G L v sz l):rQ w' G' L' v sz l:=h.imp (lU.bR aq hs) id
theorem dn.bR(aq:da w G w' G')(cN:∀i b:Nat,ρ[i]?=some (b+1)->ρ'[i]?=some (b+1))(hs:e4 L L' w G w' G'){v:Value}{x:ah}(h:dn w G ρ L v x):dn w' G' ρ' L' v x:=by
 rcases h.cases with h|⟨sz,l,rfl,eA⟩|⟨sz,n,us,rfl,ch⟩
 .grind[cp,df.keep]
 .grind[yU,rQ.bR]
 .exact px.bR aq hs ch
theorem di.bR(aq:da w G w' G')(cN:∀i b:Nat,ρ[i]?=some (b+1)->ρ'[i]?=some (b+1)){lam':Nat->Option Nat}(aI:∀t b,lam t=some b->lam' t=some b)(hs:e4 L L' w G w' G'){v:Value}{x:ah}(h:di w G ρ lam L v x):di w' G' ρ' lam' L' v x:=by
 rcases h.cases with h|⟨t,off,b,rfl,h1,sh⟩
 .grind[lV,dn.bR]
 .exact⟨b,aI _ _ h1,sh⟩
theorem dM.bR(aq:da w G w' G')(cN:∀i b:Nat,ρ[i]?=some (b+1)->ρ'[i]?=some (b+1)){LC N2:Nat->Loc}(hs:e4 L L' w G w' G')(az:∀j,e4 (LC j) (N2 j) w G w' G'){b:Nat}{cs:List ah}
  (h:dM w G ρ b L LC cs):dM w' G' ρ' b L' N2 cs:=by
 obtain⟨c,E,fz,h1,sh,av,aW,bL⟩:=h;obtain⟨aj,aF⟩:=hs _ _ av;exact⟨c,E,fz,aj.trans h1,sh,aF,aW,λj v x hv ak=>(bL j v x hv ak).bR aq cN (az j)⟩
theorem kv.bR(aq:da w G w' G')(cN:∀i b:Nat,ρ[i]?=some (b+1)->ρ'[i]?=some (b+1)){i:Nat}(hs:e4 (.obj i) (.obj i) w G w' G')(az:∀j,e4 (.du i j) (.du i j) w G w' G'){b:Nat}{o:b9}
  (h:kv w G ρ i b o):kv w' G' ρ' i b o:=by
 cases o with
 |box cs=>exact dM.bR aq cN hs az h
 |map es=>
  obtain⟨mes,clock,h1,sh,av,aW⟩:=h;obtain⟨aj,aF⟩:=hs _ _ sh;exact⟨mes,clock,aj.trans h1,aF,av,λj e p he hp=>⟨(aW j e p he hp).1.keep aq,(aW j e p he hp).2.keep aq cN⟩⟩
 |dead=>trivial
 |hU t e bs=>
  obtain⟨p,v,h1,sh,av,aW⟩:=h;obtain⟨aj,aF⟩:=hs _ _ sh;refine⟨p,v,aj.trans h1,aF,av,?_⟩;rcases aW with aW|⟨g,cap,c,fz,bw,a2,a3,a4⟩
  .simp_all
  .obtain⟨f1,f2⟩:=az 1 _ _ a3;grind
 |rE m=>
  rcases h with⟨since,last,h1,sh,av⟩|⟨k,a6,since,last,h1,sh,av,aW⟩
  .obtain⟨aj,aF⟩:=hs _ _ sh;exact .inl ⟨since,last,aj.trans h1,aF,av⟩
  .obtain⟨aj,aF⟩:=hs _ _ aW;exact .inr ⟨k,a6,since,last,h1,cN _ _ sh,aj.trans av,aF⟩
theorem ht.bR(aq:da w G w' G'){s:aU}(hs:∀i,e4 (.obj i) (.obj i) w G w' G')(az:∀i j,e4 (.du i j) (.du i j) w G w' G')(h:ht w G ρ s):ht w' G' ρ s:=
 ⟨h.1,λi b o au bd=>(h.2 i b o au bd).bR aq (λ_ _ h=>h) (hs i) (az i)⟩
theorem py.bR{gl:Nat->List D}(aq:da w G w' G')(h:py gl w G):py gl w' G':=⟨λg=>(h.1 g).keep aq,λg=>(h.2 g).imp id λ⟨c,E,fz,h1,sh⟩=>⟨c,E,fz,aq.2.1 _ _ h1,sh⟩⟩
theorem lU.rd{v:Value}{sz:Nat}{l:List D}(h:lU w G L v sz l):Rd w G v (.list sz l):=by
 obtain⟨b,off,cap,c,E,fz,vs,h1,sh,av,aW,bL,cW,hx,hI,iD,kU⟩:=h;subst h1;exact .list b off _ cap sz l vs rfl sh hI iD kU
theorem rQ.rd{v:Value}{sz:Nat}{l:List D}(h:rQ w G L v sz l):Rd w G v (.list sz l):=by
 rcases h with h|⟨rfl,cF,rfl⟩
 .exact h.rd
 .exact .kT _ _ _
theorem dn.snap{v:Value}{x:ah}(h:dn w G ρ L v x):df w G ρ v (snap x):=by
 rcases h.cases with h|⟨sz,l,rfl,eA⟩|⟨sz,n,us,rfl,ch⟩
 .cases h<;>first|exact .d _ _ (.kT _ _ _)|exact .undef _|exact .d _ _ ‹_› |exact .ptr _ _ _ ‹_› |exact .map _ _ ‹_› |exact .aN _ _ _ _ _ _ _ ‹_› ‹_› ‹_› |exact .func _ _ _ _ _ ‹_› ‹_› |exact .agg _ _ ‹_› |exact .tuple _ _ ‹_› |exact .fY _ _ ‹_›
 .cases l<;>exact .d _ _ eA.rd
 .exact .undef _
theorem di.snap{v:Value}{x:ah}(h:di w G ρ lam L v x):di w G ρ lam L' v (snap x):=by
 rcases h.cases with h|⟨t,off,b,rfl,h1,sh⟩
 .exact .cp h.snap
 .exact⟨b,h1,sh⟩
theorem aeH{v:Value}{x:ah}{d:D}(h:dn w G ρ L v x)(bh:A1 x=some d):Rd w G v d:=by
 have:=h.snap;cases x<;>simp[A1,aAe,reduceCtorEq]at bh
 .subst bh;cases this;omega
 .subst bh;cases this;omega
 .subst bh;cases this;omega
theorem yV{LC:Nat->Loc}:∀{vs:List Value} {xs:List ah} {ds:List D} {k:Nat},vs.length=xs.length->(∀j v x,vs[j]?=some v->xs[j]?=some x->dn w G ρ (LC (k+j)) v x)->jz xs=some ds->cl w G vs ds
 |[],[],ds,_,_,_,bh=>by simp[jz,aAe]at bh;subst bh;exact .nil
 |[],_::_,_,_,h,_,_=>axZ
 |_::_,[],_,_,h,_,_=>axZ
 |v::vs,x::xs,ds,k,h,ax,bh=>by
  simp[jz]at bh;cases ak:A1 x with
  |none=>simp_all
  |some d=>
   cases wa:jz xs with
   |none=>simp_all
   |some l=>
    simp[ak,wa,aAe]at bh;subst bh;exact .cons _ _ _ _ (aeH (ax 0 v x rfl rfl) ak) (yV (k:=k+1) axY (λj v x hv ak=>by
     have:=ax (j+1) v x axY axY;rwa [aB4,Nat.add_comm 1 j]) wa)
theorem D5{LC:Nat->Loc}{vs:List Value}{xs:List ah}(aI:vs.length=xs.length)(ax:∀j v x,vs[j]?=some v->xs[j]?=some x->dn w G ρ (LC j) v x):df w G ρ (.agg ⟨vs⟩) (cT (.agg xs)):=by
 simp[cT];cases bh:jz xs with
 |some ds=>exact .d _ _ (.agg _ _ (yV (k:=0) aI (λj v x hv ak=>by rw[aA2];exact ax j v x hv ak) bh))
 |none=>exact .agg _ _ (.mk axY λj v x hv ak=>by
   grind[dn.snap])
theorem df.cT{v:Value}{x:ah}(h:df w G ρ v x):df w G ρ v (cT x):=by
 cases h with
 |agg vs cs h=>exact D5 (LC:=λ_=>.res) h.length λj v x hv ak=>.cp (h.get hv ak)
 |nil a sz=>exact .d _ _ (.kT _ _ _)
 |undef v=>exact .undef v
 |d v x h=>exact .d v x h
 |ptr _ _ _ h=>exact .ptr _ _ _ h
 |map _ _ h=>exact .map _ _ h
 |aN _ _ _ _ _ _ _ h az aO=>exact .aN _ _ _ _ _ _ _ h az aO
 |func _ _ _ _ _ h1 sh=>exact .func _ _ _ _ _ h1 sh
 |tuple _ _ h=>exact .tuple _ _ h
 |fY _ _ h=>exact .fY _ _ h
theorem dn.cT{v:Value}{x:ah}(h:dn w G ρ L v x):df w G ρ v (cT x):=by
 rcases h.cases with h|⟨sz,l,rfl,eA⟩|⟨sz,n,us,rfl,ch⟩
 .exact h.cT
 .cases l<;>exact .d _ _ eA.rd
 .exact .undef _
theorem di.cT{v:Value}{x:ah}(h:di w G ρ lam L v x):di w G ρ lam L' v (cT x):=by
 rcases h.cases with h|⟨t,off,b,rfl,h1,sh⟩
 .exact .cp h.cT
 .exact⟨b,h1,sh⟩
theorem di.hq{v:Value}{x:ah}{d:D}(h:di w G ρ lam L v x)(aY:hq x=some d):Rd w G v d:=by
 have:=h.cT (L':=L);unfold aH.hq at aY;split at aY
 .rename_i y wa;simp at aY;subst aY;rw[wa]at this;cases this;omega
 simp_all
theorem di.HO{v:Value}{x:ah}{n:Nat}(h:di w G ρ lam L v x)(ay:ea n x=true):dn w G ρ L v x:=by
 rcases h.cases with h|⟨t,off,b,rfl,h1,sh⟩
 all_goals grind[ea]
theorem N3{v:Value}{x:ah}(h:uX v x=true):df w G ρ v x:=by
 unfold uX at h;split at h<;>first
  |(simp at h;subst h;exact .d _ _ (.bool _))
  |(simp at h;obtain⟨rfl,rfl⟩:=h;exact .d _ _ (.int _ _))
  |(simp at h;exact .d _ _ (.str _ _ h))
  |exact .d _ _ .dP
  |exact .d _ _ .hS
  |exact .d _ _ .ll
  |exact .d _ _ .iy
  |exact .nil _ _
  |(simp at h;obtain⟨⟨rfl,rfl⟩,rfl⟩:=h;exact .d _ _ (.fn _))
  |grind
theorem HP:∀{vs:List Value} {xs:List ah},vs.length=xs.length->(vs.zip xs).all (λp=>uX p.1 p.2)=true->ck w G ρ vs xs
 |[],[],_,_=>.nil
 |[],_::_,h,_=>axZ
 |_::_,[],h,_=>axZ
 |v::vs,x::xs,h,ax=>by
  simp only[aCR,aB5,aAc]at ax;exact .cons _ _ _ _ (N3 ax.1) (HP axY ax.2)
theorem HQ{v:Value}{x:ah}(h:DY v x=true):df w G ρ v x:=by
 unfold DY at h;split at h
 .rename_i vs cs;obtain⟨vs⟩:=vs;exact .agg _ _ (HP axY axY)
 .rename_i vs;obtain⟨vs⟩:=vs;cases vs with
  |nil=>exact .tuple [] [] .nil
  |cons a b=>grind
 grind[N3]
section
variable {P:Program}{gl:Nat->List D}{a:Act}{st:ag}
theorem N4{t:Nat}{x:Operand}{y:O}(ak:bO P t x=some y)(h:bS gl w G ρ lam a.tmps st):∃L,di w G ρ lam L (a.eval x) (aL gl st y)/\∀s,y=.t s->L=.slot s:=by
 cases x with
 |tmp n=>simp[bO,aAe]at ak;subst ak;exact⟨.slot n,h.aR n,λs hs=>axY⟩
 |const v=>
  simp[bO,aA0]at ak;obtain⟨z,aO,rfl⟩:=ak;refine⟨.res,.cp ?_,λs hs=>axZ⟩;unfold HE at aO;split at aO
  .split at aO
   .simp at aO;subst aO;exact HQ ‹_›
   simp_all
  simp_all
 |global g=>simp[bO,aAe]at ak;subst ak;exact⟨.res,.cp (.d _ _ (h.eU.1 g)),λs hs=>axZ⟩
 |func f=>simp[bO,aAe]at ak;subst ak;exact⟨.res,.cp (.d _ _ (.fn f)),λs hs=>axZ⟩
theorem bS.set{tmps:Array Value}{d:Nat}{v:Value}{x:ah}(h:bS gl w G ρ lam tmps st)(aY:d<tmps.size)(hv:di w G ρ lam (.slot d) v x):bS gl w G ρ lam (tmps.setIfInBounds d v) (st.set d x) where
 aR t:=by
  simp only[ag.set,dh];by_cases aE:t=d
  .simp_all
  .have:(tmps.setIfInBounds d v).getD t undef=tmps.getD t undef:=by
    simp_all[aAt]
   grind[aR]
 bH:=h.bH
 nb:=h.nb
 ob:=h.ob
 eU:=h.eU
 lt:=h.lt
end
end
def aAd:=@Nat.le_refl
def aBv:=@Nat.not_lt
def aAU:=@Array.getElem?_eq_some_iff
def aAC:=@if_false
theorem axX(h:p:=by simp):p:=h
theorem ayf(h:p:=by simp_all[execOp]):p:=h
theorem ayk(h:p:=by grind[c8]):p:=h
theorem ayP(h:p:=by grind[iU]):p:=h
def gQ(P:Program)(f:Nat):Prop:=∃fn,P.funcs[f]?=some fn/\fn.body.isNone=false/\(fn.name== "runtime.NumGoroutine")=false
def bG(P:Program)(gl:Nat->List D)(f:Nat)(args:List ah)(s:aU)(r:ah)(s':aU):Prop:=
 gQ P f/\∀(w:World) (G:bI) (ρ:List Nat) (vs:List Value),ht w G ρ s->py gl w G->(∀b L n,G b=some (L,n)->b<w.heap.size)->ck w G ρ vs args->
  Calls P f ⟨vs⟩ w λe w'=>∃v G' ρ',e=.returned v/\dn w' G' ρ' .res v r/\ht w' G' ρ' s'/\(∀b L n,G' b=some (L,n)->b<w'.heap.size)/\Good w G w' G'/\
   (∀i b:Nat,ρ[i]?=some b->ρ'[i]?=some b)
def a7(P:Program)(f:Nat)(cM:aX):Prop:=∃fn an,P.funcs[f]?=some fn/\(fn.name== "runtime.NumGoroutine")=false/\u0 P an fn=some cM
def bx(P:Program)(gl:Nat->List D):mB Prop where
 fail:=False
 guard b p:=b=true/\p
 call f args s K:=∃r s',bG P gl f args s r s'/\K r s'
 fix F st:=∃(I:Nat->ag->Prop) (n:Nat),I n st/\∀n st,I n st->F st λaT=>∃m,m<n/\I m aT
 both:=And
 iter g k:=∃cM,a7 P g cM/\k cM
theorem Good.refl{w:World}{G:bI}(h:∀b L n,G b=some (L,n)->b<w.heap.size):Good w G w G where
 size:=aAd _
 iB _ _ _:=⟨rfl,rfl⟩
 new _ _ au dA:=absurd (h _ _ _ dA) (aBv.2 au)
 old _ _ _ h:=h
 keep:=da.refl _ _
 os:=rfl
 out:=rfl
theorem iE{ρ l:List Nat}:∀i b:Nat,ρ[i]?=some b->(ρ++l)[i]?=some b:=axZ
def mark(D:Nat):Deferred:={target:=.collected D,args:= #[]}
def Marks(n0:Nat)(w:World)(G:bI)(l:List Deferred):Prop:=
 ∃hz:List Nat,l=hz.map mark/\hz.Nodup/\∀D,D∈hz->n0<=D/\w.heap[D]?=some (.deferred (some []))/\G D=none
theorem Marks.good{n0:Nat}{w w':World}{G G':bI}{l:List Deferred}(h:Marks n0 w G l)(aC:Good w G w' G'):Marks n0 w' G' l:=by
 obtain⟨hz,h1,sh,av⟩:=h;refine⟨hz,h1,sh,λD cv=> ?_⟩;obtain⟨aj,aF,aZ⟩:=av D cv;have aA:=(aAU.1 aF).1;grind[Good.iB]
theorem Marks.nil{n0:Nat}{w:World}{G:bI}:Marks n0 w G []:=⟨[],rfl,List.nodup_nil,λD cv=>axY⟩
def cJ(n0:Nat)(gl:Nat->List D)(nt:Nat)(w:World)(G:bI)(ρ:List Nat)(K:ag->Prop)(a':Act)(w':World):Prop:=
 nt<=a'.tmps.size/\∃G' ρ' lam' aT,Marks n0 w' G' a'.defers/\bS gl w' G' ρ' lam' a'.tmps aT/\Good w G w' G'/\(∀i b:Nat,ρ[i]?=some b->ρ'[i]?=some b)/\K aT
theorem kV{gl:Nat->List D}{n0 nt:Nat}{w w':World}{G:bI}{ρ:List Nat}{a a':Act}{K:ag->Prop}(hm:Marks n0 w G a.defers)(h1:a'.defers=a.defers)(sh:nt<=a'.tmps.size)(G':bI)(ρ':List Nat)
  (lam':Nat->Option Nat) (aT:ag) (av:bS gl w' G' ρ' lam' a'.tmps aT) (aW:Good w G w' G') (bL:∀i b:Nat,ρ[i]?=some b->ρ'[i]?=some b) (cW:K aT):cJ n0 gl nt w G ρ K a' w':=
 ⟨sh,G',ρ',lam',aT,by grind[Marks.good],av,aW,bL,cW⟩
section
variable {P:Program}{gl:Nat->List D}{n0 nt:Nat}{a:Act}{w w':World}{G G':bI}{ρ ρ':List Nat}{lam lam':Nat->Option Nat}{st aT:ag}{K:ag->Prop}{o:Oper}{Q:Exit->Act->World->Prop}
theorem gb{next:Act->World->Prop}{v:Value}(ax:(execOp a.eval o).run P w=.ok (.value v) w')(h:next (a.put o.dst v) w'):o.wp P a w next Q:=by
 unfold Oper.wp;rw[ax];exact h
theorem u1{next:Act->World->Prop}(ax:(execOp a.eval o).run P w=.ok .skip w')(h:next (a.put o.dst undef) w'):o.wp P a w next Q:=by
 unfold Oper.wp;rw[ax];exact h
theorem iU(a:Act)(d:Option Nat)(v:Value):(a.put d v).tmps.size=a.tmps.size:=by
 cases d<;>simp[Act.put]
theorem put_defers(a:Act)(d:Option Nat)(v:Value):(a.put d v).defers=a.defers:=by
 cases d<;>simp[Act.put]
theorem nW{w0:World}{G0:bI}{ρ0:List Nat}{d:Nat}{v:Value}{x:ah}(h:bS gl w G ρ lam a.tmps st)(wP:Marks n0 w0 G0 a.defers)(ay:nt<=a.tmps.size)(bu:d<nt)(aC:Good w0 G0 w G)(yW:∀i b:Nat,ρ0[i]?=some b->ρ[i]?=some b)(a8:o.dst=some d)
  (hv:di w G ρ lam (.slot d) v x) (ao:K (st.set d x)):cJ n0 gl nt w0 G0 ρ0 K (a.put o.dst v) w:=
 (kV wP (put_defers _ _ _) ayP G ρ lam _ (by rw[a8];exact h.set (aAI bu ay) hv) aC yW ao)
def c8(ad:Loc->Loc)(G:bI):bI:=λb=>(G b).map λp=>(ad p.1,p.2)
theorem Be{ad:Loc->Loc}{b:Nat}{L:Loc}{n:Nat}(h:G b=some (L,n)):c8 ad G b=some (ad L,n):=ayk
theorem D6{ad:Loc->Loc}{b:Nat}{L:Loc}{n:Nat}(h:c8 ad G b=some (L,n)):∃L',G b=some (L',n)/\ad L'=L:=by
 simp_all[c8]
theorem N5{ad:Loc->Loc}{b off:Nat}:HK (c8 ad G) b off↔HK G b off:=
 ⟨λh L n aC=>h _ n (Be aC),λh L n aC=>by obtain⟨L',oG,_⟩:=D6 aC;exact h _ _ oG⟩
theorem N6{ad:Loc->Loc}{b:Nat}:c8 ad G b=none↔G b=none:=by simp[c8]
theorem j2(ad:Loc->Loc):da w G w (c8 ad G):=⟨λ_ _ _ h=>⟨h.1,N5.2 h.2.1,h.2.2⟩,λ_ _ h=>⟨N6.2 h.1,h.2⟩,λ_ _ h=>h⟩
theorem auL(ad:Loc->Loc):da w (c8 ad G) w G:=⟨λ_ _ _ h=>⟨h.1,N5.1 h.2.1,h.2.2⟩,λ_ _ h=>⟨N6.1 h.1,h.2⟩,λ_ _ h=>h⟩
theorem oH(ad:Loc->Loc)(L:Loc):e4 L (ad L) w G w (c8 ad G):=λ_ _ h=>⟨rfl,Be h⟩
theorem rR{ad:Loc->Loc}{L:Loc}(h:ad L=L):e4 L L w G w (c8 ad G):=by grind[oH]
theorem N7{ad:Loc->Loc}(h:∀b L n,G b=some (L,n)->b<w.heap.size)(h1:ad .foreign=.foreign)(sh:∀L,ad L=.foreign->L=.foreign):Good w G w (c8 ad G) where
 size:=aAd _
 iB b _ dA:=⟨rfl,ayk⟩
 new b n au dA:=by obtain⟨L',aC,_⟩:=D6 dA;grind
 old b n au dA:=by grind[D6]
 keep:=j2 ad
 os:=rfl
 out:=rfl
theorem rS{ad:Loc->Loc}(h:∀b L n,G b=some (L,n)->b<w.heap.size):∀b L n,c8 ad G b=some (L,n)->b<w.heap.size:=
 λ_ _ _ aC=>by grind[D6]
def ff(s d:Loc)(L:Loc):Loc:=if L=s then d else L
theorem qx{s d L:Loc}(h:L≠s):ff s d L=L:=by grind[ff]
theorem tg{s d:Loc}:ff s d s=d:=by simp[ff]
theorem qy{s d:Loc}(h:∀b L n,G b=some (L,n)->b<w.heap.size)(hs:s≠.foreign)(aY:d≠.foreign):Good w G w (c8 (ff s d) G):=
 N7 h (qx (aAt hs)) λL bE=>by
  grind[tg,qx]
theorem bS.take{d s:Nat}(h:bS gl w G ρ lam a.tmps st)(aY:d<a.tmps.size):
  bS gl w (c8 (ff (.slot s) (.slot d)) G) ρ lam (a.tmps.setIfInBounds d (a.tmps.getD s undef)) ((st.set s .undef).set d (st.aR s)):=by
 have aq:da w G w (c8 (ff (.slot s) (.slot d)) G):=j2 _;have hid:∀L,L≠.slot s->e4 L L w G w (c8 (ff (.slot s) (.slot d)) G):=λL bE=>rR (qx bE);refine bS.set (st:=st.set s .undef) ⟨?_,?_,h.nb,?_,h.eU.bR aq,rS h.lt⟩ aY ?_
 .intro t;simp only[ag.set,dh];by_cases aE:t=s
  .simp[aE,if_true];exact .cp (.undef _)
  .simp only[aE,aAC];exact(h.aR t).bR aq (λ_ _ h=>h) (λ_ _ h=>h) (hid _ axZ)
 .intro t cs au;obtain⟨b,h1,sh⟩:=h.bH t cs au;exact⟨b,h1,dM.bR aq (λ_ _ h=>h) (hid _ axX) (λj=>hid _ axX) sh⟩
 .exact h.ob.bR aq (λi=>hid _ axX) (λi j=>hid _ axX)
 .have:=oH (w:=w) (G:=G) (ff (.slot s) (.slot d)) (.slot s);rw[tg]at this;exact(h.aR s).bR aq (λ_ _ h=>h) (λ_ _ h=>h) this
theorem HR{w0:World}{G0:bI}{ρ0:List Nat}{d s:Nat}(h:bS gl w G ρ lam a.tmps st)(wP:Marks n0 w0 G0 a.defers)(ay:nt<=a.tmps.size)(bu:d<nt)(aC:Good w0 G0 w G)(yW:∀i b:Nat,ρ0[i]?=some b->ρ[i]?=some b)(a8:o.dst=some d)
  (ao:K ((st.set s .undef).set d (st.aR s))):cJ n0 gl nt w0 G0 ρ0 K (a.put o.dst (a.tmps.getD s undef)) w:=
 (kV wP (put_defers _ _ _) ayP _ ρ lam _ (by rw[a8];exact h.take (aAI bu ay)) (aC.trans (qy h.lt axX axX)) yW ao)
theorem yX{t:Nat}{x:Operand}{y:O}{L:Loc}(ak:bO P t x=some y)(h:bS gl w G ρ lam a.tmps st):di w G ρ lam L (a.eval x) (snap (aL gl st y)):=by
 grind[N4,di.snap]
theorem dQ{t:Nat}{x:Operand}{y:O}(ak:bO P t x=some y)(h:bS gl w G ρ lam a.tmps st):∃L,di w G ρ lam L (a.eval x) (aL gl st y):=by
 grind[N4]
theorem HS{t:Nat}{x:Operand}{y:O}(ak:bO P t x=some y)(h:bS gl w G ρ lam a.tmps st):(∃s,x=.tmp s/\y=.t s)\/((∀s,y≠.t s)/\df w G ρ (a.eval x) (aL gl st y)):=by
 cases x with
 |tmp n=>grind[bO]
 |const v=>
  simp[bO,aA0]at ak;obtain⟨z,aO,rfl⟩:=ak;refine .inr ⟨(λs hs=>axZ),?_⟩;unfold HE at aO;split at aO
  .split at aO
   .simp at aO;subst aO;exact HQ ‹_›
   simp_all
  simp_all
 |global g=>simp[bO,aAe]at ak;subst ak;exact .inr ⟨(λs hs=>axZ),.d _ _ (h.eU.1 g)⟩
 |func f=>simp[bO,aAe]at ak;subst ak;exact .inr ⟨(λs hs=>axZ),.d _ _ (.fn f)⟩
structure bT(n0:Nat)(gl:Nat->List D)(nt:Nat)(w:World)(G:bI)(ρ:List Nat)(lam:Nat->Option Nat)(a:Act)(st:ag):Prop where
 rel:bS gl w G ρ lam a.tmps st
 eO:Marks n0 w G a.defers
 sz:nt<=a.tmps.size
theorem bT.value{d:Nat}{v:Value}{x:ah}(p:bT n0 gl nt w G ρ lam a st)(a8:o.dst=some d)(bu:d<nt)(ax:(execOp a.eval o).run P w=.ok (.value v) w)
  (hv:di w G ρ lam (.slot d) v x) (ao:K (st.set d x)):o.wp P a w (cJ n0 gl nt w G ρ K) Q:=
 gb ax (nW p.rel p.eO p.sz bu (Good.refl p.rel.lt) (λ_ _ h=>h) a8 hv ao)
theorem aeI{d:Nat}{x:Operand}{y:O}{t:Nat}(p:bT n0 gl nt w G ρ lam a st)(a8:o.dst=some d)(bu:d<nt)(bz:o.op=.move x)(ak:bO P t x=some y)
  (hs:step (bx P gl) gl (.cV d y) st K):o.wp P a w (cJ n0 gl nt w G ρ K) Q:=
 p.value a8 bu (v:=a.eval x) ayf (yX ak p.rel) hs
theorem aeJ{d s:Nat}(p:bT n0 gl nt w G ρ lam a st)(a8:o.dst=some d)(bu:d<nt)(bz:o.op=.move (.tmp s))
  (hs:step (bx P gl) gl (.hj d s) st K):o.wp P a w (cJ n0 gl nt w G ρ K) Q:=
 gb (v:=a.tmps.getD s undef) (by simp only[execOp,bz];rfl) (HR p.rel p.eO p.sz bu (Good.refl p.rel.lt) (λ_ _ h=>h) a8 hs)
theorem wQ(st:ag)(y:O):(kill st y=st/\(∀s,y=.t s->rG (st.aR s)=false))\/∃s,y=.t s/\kill st y=st.set s .undef/\∃z,rG z=true/\st.aR s=z:=by
 cases y with
 |t s=>
  cases ak:st.aR s with
  |own sz l=>exact .inr ⟨s,rfl,by grind[kill],_,rfl,ak⟩
  |gJ sz=>exact .inr ⟨s,rfl,by grind[kill],_,rfl,ak⟩
  |raw sz n us=>exact .inr ⟨s,rfl,by grind[kill],_,rfl,ak⟩
  |_=>exact .inl ⟨by grind[kill],λs' gq=>by cases gq;rw[ak];rfl⟩
 |c v=>exact .inl ⟨rfl,λs hs=>axZ⟩
 |g n=>exact .inl ⟨rfl,λs hs=>axZ⟩
theorem di.aeK{v:Value}{x:ah}{L L':Loc}(h:di w G ρ lam L v x)(ak:rG x=false):di w G ρ lam L' v x:=by
 rcases h.cases with h|⟨t,off,b,rfl,h1,sh⟩
 .rcases h.cases with h|⟨sz,l,rfl,eA⟩|⟨sz,n,us,rfl,ch⟩
  .exact .cp h
  .cases l<;>simp[iz,rG]at ak
  grind[rG]
 .exact⟨b,h1,sh⟩
theorem N8{d:Nat}{x:Operand}{y:O}{t:Nat}(p:bT n0 gl nt w G ρ lam a st)(a8:o.dst=some d)(bu:d<nt)(bz:o.op=.assign x)(ak:bO P t x=some y)
  (hs:step (bx P gl) gl (.e2 d y) st K):o.wp P a w (cJ n0 gl nt w G ρ K) Q:=by
 have ax:(execOp a.eval o).run P w=.ok (.value (a.eval x)) w:=ayf;simp[step]at hs;rcases HS ak p.rel with⟨s,rfl,rfl⟩|⟨ay,hA⟩
 .rcases wQ st (.t s)with⟨aq,qz⟩|⟨s',gq,aq,_⟩
  .rw[aq]at hs;exact p.value a8 bu ax ((p.rel.aR s).aeK (qz s rfl)) hs
  .cases gq;rw[aq]at hs;exact gb ax (HR p.rel p.eO p.sz bu (Good.refl p.rel.lt) (λ_ _ h=>h) a8 hs)
 .rcases wQ st y with⟨aq,_⟩|⟨s',gq,aq,_⟩
  .rw[aq]at hs;exact p.value a8 bu ax (.cp hA) hs
  simp_all
theorem di.iV{v:Value}{x:D}{L:Loc}(h:di w G ρ lam L v (.d x)):Rd w G v x:=by
 have cG:=h;cases cG;omega
theorem di.bool{v:Value}{b:Bool}{L:Loc}(h:di w G ρ lam L v (.d (.bool b))):v=.bool b:=by
 have:=h.iV;cases this;rfl
theorem di.int{v:Value}{k:IntKind}{n:Int}{L:Loc}(h:di w G ρ lam L v (.d (.int k n))):v=.int k n:=by
 have:=h.iV;cases this;rfl
theorem di.str{v:Value}{l:List UInt8}{L:Loc}(h:di w G ρ lam L v (.d (.str l))):∃s:ByteArray,v=.string s/\s.data.toList=l:=by
 have:=h.iV;cases this with|str s _ h=>exact⟨s,rfl,h⟩
theorem aeL{d:Nat}{c x y:Operand}{c' bA y':O}{t u:Nat}(p:bT n0 gl nt w G ρ lam a st)(a8:o.dst=some d)(bu:d<nt)(bz:o.op=.pick c x y)(az:bO P t c=some c')(ak:bO P u x=some bA)(wa:bO P u y=some y')
  (hs:step (bx P gl) gl (.dU d c' bA y') st K):o.wp P a w (cJ n0 gl nt w G ρ K) Q:=by
 obtain⟨L,u2⟩:=dQ az p.rel;simp[step]at hs;split at hs
 .rename_i b au;rw[au]at u2;have N9:=u2.bool;cases b with
  |true=>exact p.value a8 bu (v:=a.eval x) (by simp_all[execOp,asBool]) (yX ak p.rel) axY
  |false=>exact p.value a8 bu (v:=a.eval y) (by simp_all[execOp,asBool]) (yX wa p.rel) axY
 .exact hs.elim
def aAm:=@Go.Sem.run_bind
def aAJ:=@Prod.mk.injEq
def aAo:=@Go.Result.andThen_ok
def aBI:=@Go.ByteArray.toList_eq
theorem axW(h:p:=by omega):p:=h
theorem ayA(h:p:=by simp_all[binOp,Op.intCmp]):p:=h
theorem ayZ(h:p:=by simp_all[binOp,Op.intBits]):p:=h
theorem azj(h:p:=by simp_all[binOp,Op.intArith]):p:=h
theorem azH(h:p:=by rw[aBI,aBI,yY];exact .bool _):p:=h
theorem azI(h:p:=by rw[aBI,aBI,bytesLess_eq];exact .bool _):p:=h
theorem azJ(h:p:=by rw[aBI,aBI,bytesLess_eq,yY];exact .bool _):p:=h
theorem eV{t:Nat}{d:TypeDesc}(h:P.underlying t=some d)(w:World):(underlying t).run P w=.ok d w:=by
 simp_all[underlying]
theorem j3{t n:Nat}(h:dc P t=some n)(w:World):(sizeOf t).run P w=.ok n w:=by
 unfold dc at h;cases hi:P.info? t with
 |none=>simp_all
 |some i=>
  simp_all[sizeOf,typeInfo]
theorem wR{t:Nat}{b:Bool}(h:kq P t=some b)(w:World):(isAgg t).run P w=.ok b w:=by
 unfold kq at h;unfold isAgg;cases hu:P.underlying t with
 |none=>simp_all
 |some d=>
  rw[aAm,eV hu w];cases d<;>simp[hu]at h<;>subst h<;>rfl
theorem Oa(x y:Int):(x==y)=decide (x=y):=axZ
theorem aeM{op:BinOp}{k:IntKind}{x y:Int}{r:D}{ok:Bool}(h:A2 op k x y=some (ok,r))(fW:ok=true)(t:Nat):
  ∃v,(binOp op t (.int k x) (.int k y)).run P w=.ok v w/\Rd w G v r:=by
 cases op<;>simp[A2,aAe,aAJ,reduceCtorEq]at h<;>obtain⟨h1,rfl⟩:=h;case quo=>
  have wb:y≠0:=axY;exact⟨_,by simp_all[binOp,Op.intDiv],.int _ _⟩
 case rem=>
  have wb:y≠0:=axY;exact⟨_,by simp_all[binOp,Op.intDiv],.int _ _⟩
 case add=>exact⟨_,azj,.int _ _⟩
 case sub=>exact⟨_,azj,.int _ _⟩
 case mul=>exact⟨_,azj,.int _ _⟩
 case and=>exact⟨_,ayZ,.int _ _⟩
 case or=>exact⟨_,ayZ,.int _ _⟩
 case xor=>exact⟨_,ayZ,.int _ _⟩
 case andNot=>exact⟨_,ayZ,.int _ _⟩
 case eql=>exact⟨.bool (x==y),ayA,by exact .bool _⟩
 case neq=>exact⟨.bool (x != y),ayA,by exact .bool _⟩
 case lss=>exact⟨.bool (decide (x<y)),ayA,.bool _⟩
 case leq=>exact⟨.bool (decide (x<=y)),ayA,.bool _⟩
 case gtr=>exact⟨.bool (decide (x>y)),ayA,.bool _⟩
 case geq=>exact⟨.bool (decide (x>=y)),ayA,.bool _⟩
theorem aeN{op:BinOp}{k k':IntKind}{x y:Int}{r:D}(h:wK op k x y=some r)(wa:0<=y)(t:Nat):
  ∃v,(binOp op t (.int k x) (.int k' y)).run P w=.ok v w/\Rd w G v r:=by
 have ay:¬y<0:=axW;cases op<;>simp[wK,aAe,reduceCtorEq]at h<;>subst h;case shl=>exact⟨_,by simp only[binOp,Op.shift,ay,aAC];rfl,.int _ _⟩
 case shr=>exact⟨_,by simp only[binOp,Op.shift,ay,aAC];rfl,.int _ _⟩
theorem auM{op:BinOp}{k:IntKind}{x y:Int}(h:wK op k x y=none):op≠.shl/\op≠.shr:=by
 grind[wK]
theorem bytesLess_eq:∀a b:List UInt8,Op.bytesLess a b=bytesLess a b
 |_,[]=>by simp[Op.bytesLess,bytesLess]
 |[],_::_=>by simp[Op.bytesLess,bytesLess]
 |a::x,b::y=>by
  simp[Op.bytesLess,bytesLess,bytesLess_eq x y];congr 1
theorem yY(a b:List UInt8):(a==b)=decide (a=b):=axZ
theorem aeO{op:BinOp}{x y:ByteArray}{r:D}{ok:Bool}(h:A3 op x.data.toList y.data.toList=some (ok,r))(fW:ok=true)(t:Nat):
  ∃v,(binOp op t (.string x) (.string y)).run P w=.ok v w/\Rd w G v r:=by
 have au:∀ti,binOp ti t (.string x) (.string y)=Op.stringOp ti x y:=λti=>by cases ti<;>rfl
 cases op<;>simp only[A3,aAe,aAJ,reduceCtorEq]at h<;>obtain⟨h1,rfl⟩:=h;case add=>
  rw[fW]at h1;have sh:=by simpa [HB]using of_decide_eq_true h1
  refine⟨.string (x++y),?_,.str _ _ axX⟩;have av:¬(((x.size+y.size:Nat):Int)>IntKind.i64.max):=by grind[IntKind.max,IntKind.bits]
  simp_all[Op.stringOp]
 case eql=>exact⟨.bool (x.toList==y.toList),rfl,azH⟩
 case neq=>exact⟨.bool (!(x.toList==y.toList)),rfl,azH⟩
 case lss=>exact⟨.bool (Op.bytesLess x.toList y.toList),rfl,azI⟩
 case leq=>exact⟨.bool (Op.bytesLess x.toList y.toList||x.toList==y.toList),rfl,azJ⟩
 case gtr=>exact⟨.bool (!(Op.bytesLess x.toList y.toList||x.toList==y.toList)),rfl,azJ⟩
 case geq=>exact⟨.bool (!(Op.bytesLess x.toList y.toList)),rfl,azI⟩
theorem HT{op:BinOp}{t:Nat}{x y:Operand}{u v:Value}(h1:u.oneCell'=true)(sh:u≠.nilIface):(eqGuard op t x y u v).run P w=.ok () w:=by
 cases u<;>first
  |(simp[Value.oneCell']at h1;done)
  |(exact absurd rfl sh)
  |(cases op<;>rfl)
theorem Ob{d:Nat}{x y:Operand}{bA y':O}{op:BinOp}{t u t1 t2:Nat}(p:bT n0 gl nt w G ρ lam a st)(a8:o.dst=some d)(bu:d<nt)(bz:o.op=.binOp op t x y u)(ak:bO P t1 x=some bA)(wa:bO P t2 y=some y')
  (hs:step (bx P gl) gl (.bi d op bA y') st K):o.wp P a w (cJ n0 gl nt w G ρ K) Q:=by
 obtain⟨fB,h1⟩:=dQ ak p.rel;obtain⟨jd,sh⟩:=dQ wa p.rel;have fin:∀{v:Value} {r:D},(∀z,a.eval x=z->z.oneCell'=true/\z≠.nilIface)->(binOp op t (a.eval x) (a.eval y)).run P w=.ok v w->Rd w G v r->K (st.set d (.d r))->o.wp P a w (cJ n0 gl nt w G ρ K) Q:=by
  intro v r aO ax hv ao;refine p.value a8 bu (v:=v) ?_ (.cp (.d _ _ hv)) ao;have:=HT (P:=P) (w:=w) (op:=op) (t:=t) (x:=x) (y:=y) (v:=a.eval y) (aO _ rfl).1 (aO _ rfl).2;grind[execOp,Sem.run_bind,Result.andThen_ok,Sem.run_pure]
 simp[step]at hs;split at hs
 .rename_i k m k' n aj aF;rw[aj]at h1;rw[aF]at sh;have v1:=h1.int;have v2:=sh.int;have aO:∀z,a.eval x=z->z.oneCell'=true/\z≠.nilIface:=by grind[Value.oneCell']
  split at hs
  .rename_i r ax;obtain⟨hp,ao⟩:=hs;obtain⟨v,cc,tj⟩:=aeN (P:=P) (w:=w) (G:=G) (k':=k') ax axY t;grind
  .split at hs
   .rename_i ok r ax;obtain⟨lW,fW,ao⟩:=hs;obtain rfl:k=k':=axY;obtain⟨v,cc,tj⟩:=aeM (P:=P) (w:=w) (G:=G) ax fW t;grind
   .exact hs.elim
 .rename_i m n aj aF;rw[aj]at h1;rw[aF]at sh;obtain⟨s1,v1,rfl⟩:=h1.str;obtain⟨s2,v2,rfl⟩:=sh.str;have aO:∀z,a.eval x=z->z.oneCell'=true/\z≠.nilIface:=by grind[Value.oneCell']
  split at hs
  .rename_i ok r ax;obtain⟨fW,ao⟩:=hs;obtain⟨v,cc,tj⟩:=aeO (P:=P) (w:=w) (G:=G) ax fW t;grind
  .exact hs.elim
 .exact hs.elim
theorem aeP{d:Nat}{x:Operand}{bA:O}{op:UnOp}{t t1:Nat}(p:bT n0 gl nt w G ρ lam a st)(a8:o.dst=some d)(bu:d<nt)(bz:o.op=.unOp op t x)(ak:bO P t1 x=some bA)
  (hs:step (bx P gl) gl (.un d op bA) st K):o.wp P a w (cJ n0 gl nt w G ρ K) Q:=by
 obtain⟨fB,h1⟩:=dQ ak p.rel;simp only[step]at hs;split at hs
 .rename_i b aj;rw[aj]at h1;have v1:=h1.bool;exact p.value a8 bu (v:=.bool (!b)) (by simp_all[execOp,Op.unary]) (.cp (.d _ _ (.bool _))) hs
 .rename_i k n aj;rw[aj]at h1;have v1:=h1.int;exact p.value a8 bu (v:=.int k (k.wrap (0-n))) (by simp_all[execOp,Op.unary,Op.intArith]) (.cp (.d _ _ (.int _ _))) hs
 .rename_i k n aj;rw[aj]at h1;have v1:=h1.int;exact p.value a8 bu (v:=.int k (k.wrap (BitVec.ofInt k.bits (if k.signed then -1 else k.max)^^^BitVec.ofInt k.bits n).toNat)) (by simp_all[execOp,Op.unary,Op.intBits]) (.cp (.d _ _ (.int _ _))) hs
 .exact hs.elim
theorem aeQ{d:Nat}{x:Operand}{bA:O}{s t t1:Nat}{k ji:IntKind}(p:bT n0 gl nt w G ρ lam a st)(a8:o.dst=some d)(bu:d<nt)(bz:o.op=.convert s t x)(ak:bO P t1 x=some bA)
  (Bf:P.underlying s=some (.int ji)) (tk:P.underlying t=some (.int k)) (hs:step (bx P gl) gl (.ci d k bA) st K):o.wp P a w (cJ n0 gl nt w G ρ K) Q:=by
 obtain⟨fB,h1⟩:=dQ ak p.rel;simp[step]at hs;split at hs
 .rename_i k1 n aj;rw[aj]at h1;have v1:=h1.int;refine p.value a8 bu (v:=.int k (k.wrap n)) ?_ (.cp (.d _ _ (.int _ _))) hs;simp[execOp,bz,v1,convert,aAm,eV Bf,eV tk,aAo];rfl
 .exact hs.elim
def aBJ:=@List.cons_append
def aAu:=@List.length_cons
def aCe:=@List.take_succ_cons
def aCx:=@List.drop_succ_cons
def aAv:=@Go.Sem.run_pure
def aBg:=@List.drop_eq_getElem_cons
def aAD:=@if_pos
def aBR:=@Go.Sem.run_ite
def aBS:=@Array.ext'
def aBl:=@List.range'_succ
def aB6:=@Nat.mul_one
theorem ayg(h:p:=by grind[cA]):p:=h
theorem ayv(h:p:=by grind[gp]):p:=h
theorem yZ:∀{ks:List Nat} {xs ys:List D} {r:Bool},cA ks xs ys=some r->xs.length=ks.length/\ys.length=ks.length
 |[],[],[],_,_=>⟨rfl,rfl⟩
 |[],[],_::_,_,h=>ayg
 |[],_::_,_,_,h=>ayg
 |_::_,[],_,_,h=>ayg
 |_::_,_::_,[],_,h=>ayg
 |k::ks,x::xs,y::ys,r,h=>by
  have:∃fN,cA ks xs ys=some fN:=by
   unfold cA at h;split at h
   .cases he:cA ks xs ys<;>simp[he]at h⊢
   .cases he:cA ks xs ys with
    |none=>simp_all
    |some fN=>simp
   .cases he:cA ks xs ys<;>simp[he]at h⊢
   simp_all
  obtain⟨fN,ax⟩:=this;have:=yZ ax;simp_all
theorem Bg:∀{k1 k2:List Nat} {xs ys:List D} {r:Bool},cA (k1++k2) xs ys=some r->
  ∃bN b5,cA k1 (xs.take k1.length) (ys.take k1.length)=some bN/\cA k2 (xs.drop k1.length) (ys.drop k1.length)=some b5/\r=(bN&&b5)
 |[],_,_,_,r,h=>⟨true,r,by simp[cA],axY,axX⟩
 |_::_,_,[],_,_,h=>ayg
 |_::_,_,_::_,[],_,h=>ayg
 |k::k1,k2,x::xs,y::ys,r,h=>by
  simp only[aBJ,aAu,aCe,aCx]at h⊢;unfold cA at h;split at h
  .rename_i p q;cases he:cA (k1++k2) xs ys with
   |none=>simp_all
   |some fN=>
    obtain⟨bN,b5,h1,sh,av⟩:=Bg he;grind[cA]
  .rename_i i p j q;cases aY:decide (i=j)with
   |false=>simp_all
   |true=>
    cases he:cA (k1++k2) xs ys with
    |none=>simp_all
    |some fN=>
     obtain⟨bN,b5,h1,sh,av⟩:=Bg he;simp_all[cA,Bool.and_assoc]
  .rename_i p q;cases he:cA (k1++k2) xs ys with
   |none=>simp_all
   |some fN=>
    obtain⟨bN,b5,h1,sh,av⟩:=Bg he;grind[cA]
  simp_all
def shaped(P:Program)(t:Nat)(vs:List Value)(v:Value):Prop:=if gp P t then v=.agg ⟨vs⟩else vs=[v]
theorem aeR{t:Nat}{ks:List Nat}{n:Nat}(h:kinds P n t=some ks)(w:World):(isAgg t).run P w=.ok (gp P t) w:=by
 cases n with
 |zero=>grind[kinds]
 |succ n=>
  unfold kinds at h;unfold isAgg;cases hu:P.underlying t with
  |none=>simp_all
  |some d=>
   rw[aAm,eV hu w];cases d<;>simp[gp,hu]at h⊢
theorem Bh{t:Nat}{ks:List Nat}{n off:Nat}(h:kinds P n t=some ks)(cg:dc P t=some ks.length)(V:Array Value)(hlen:off+ks.length<=V.size)(j4:gp P t=false->ks.length=1)(w:World):
  ∃v,(part t V off).run P w=.ok v w/\shaped P t ((V.toList.drop off).take ks.length) v:=by
 unfold part;rw[aAm,aeR h w,aAo];cases hs:gp P t with
 |true=>
  simp only[if_true,aAm,j3 cg,aAo,aAv];refine⟨_,rfl,?_⟩;simp[shaped,hs,if_true];grind
 |false=>
  have h1:=j4 hs;have aA:off<V.size:=axW;simp_all[shaped,aBg]
theorem Bi{n t:Nat}{ks:List Nat}(h:kinds P n t=some ks)(hs:gp P t=false):ks.length=1:=by
 cases n with
 |zero=>grind[kinds]
 |succ n=>
  grind[kinds,gp]
theorem D7{x y:D}{r:Bool}(h:cA [0] [x] [y]=some r):∃p q,x=.bool p/\y=.bool q/\r=(p==q):=by
 cases x<;>cases y<;>simp[cA]at h;simp_all
theorem Oc{x y:D}{r:Bool}(h:cA [1] [x] [y]=some r):∃k p q,x=.int k p/\y=.int k q/\r=decide (p=q):=by
 cases x<;>cases y<;>simp[cA]at h;rename_i k p k' q;cases aY:decide (k=k')<;>simp[aY]at h;obtain rfl:k=k':=axY;grind
theorem Od{x y:D}{r:Bool}(h:cA [2] [x] [y]=some r):∃p q,x=.str p/\y=.str q/\r=decide (p=q):=by
 cases x<;>cases y<;>simp[cA]at h;simp_all
theorem cl.one{v:Value}{xs:List D}(h:cl w G [v] xs):∃x,xs=[x]/\Rd w G v x:=by
 cases h with|cons _ x _ _ h1 sh=>cases sh;simp_all
theorem HU{Bj:Nat->Option (List Nat)}{Sh:Nat->List Value->Value->Prop}(d:Nat)
  (hp:∀t ks,Bj t=some ks->dc P t=some ks.length->∀(V:Array Value) off,off+ks.length<=V.size->∃v,(part t V off).run P w=.ok v w/\Sh t ((V.toList.drop off).take ks.length) v)
  (ih:∀(t:Nat) (ks:List Nat) (vs us:List Value) (xs ys:List D) (v u:Value) (r:Bool),Bj t=some ks->cl w G vs xs->cl w G us ys->Sh t vs v->Sh t us u->cA ks xs ys=some r->
   (Op.equalIn d t v u).run P w=.ok r w) (V U:Array Value):
  ∀(fs:List Field) (off:Nat) (ks:List Nat) (xs ys:List D) (r:Bool),rL P Bj fs off=some ks->cl w G (V.toList.drop off) xs->cl w G (U.toList.drop off) ys->off<=V.size->off<=U.size->cA ks xs ys=some r->
   (Op.eqFields d V U fs).run P w=.ok r w
 |[],off,ks,xs,ys,r,h,hv,hu,_,_,he=>by
  simp[rL,aAe]at h;subst h;obtain⟨h1,sh⟩:=yZ he;have aj:xs=[]:=axY;have aF:ys=[]:=axY;subst aj;subst aF;simp[cA,aAe]at he;subst he;rfl
 |f::fs,off,ks,xs,ys,r,h,hv,hu,AT,auN,he=>by
  unfold rL at h;split at h
  .rename_i ay;obtain⟨tm,D8⟩:=ay;cases aq:Bj f.type with
   |none=>simp_all
   |some k1=>
    simp[aq]at h;cases bh:rL P Bj fs (off+k1.length)with
    |none=>simp_all
    |some k2=>
     simp only[bh]at h;split at h
     .rename_i cg;simp at h;subst h;obtain⟨bN,b5,aj,aF,aZ⟩:=Bg he;obtain⟨l1,l2⟩:=yZ he;have HV:=hv.length;have HW:=hu.length;simp at l1 l2 HV HW;have D9:off+k1.length<=V.size:=axW;have Oe:off+k1.length<=U.size:=axW;obtain⟨aDl,D',lX⟩:=hp _ _ aq cg V _ D9;obtain⟨pu,HX,pz⟩:=hp _ _ aq cg U _ Oe;have rT:=ih f.type k1 _ _ _ _ aDl pu bN aq (hv.take k1.length) (hu.take k1.length) lX pz aj;have u3:=HU d hp ih V U fs (off+k1.length) k2 (xs.drop k1.length) (ys.drop k1.length) b5 bh
       (by have:=hv.drop k1.length;simp_all) (by have:=hu.drop k1.length;simp_all) D9 Oe aF
      unfold Op.eqFields;rw[aAD tm,D8];simp[aAm,D',aAo,HX,rT,aBR,aAv,u3];cases bN<;>simp[aZ]
     simp_all
  simp_all
theorem Bk:∀(n d t:Nat) (ks:List Nat) (vs us:List Value) (xs ys:List D) (v u:Value) (r:Bool),kinds P n t=some ks->n<=d->cl w G vs xs->cl w G us ys->shaped P t vs v->shaped P t us u->cA ks xs ys=some r->
  (Op.equalIn d t v u).run P w=.ok r w
 |0,_,_,_,_,_,_,_,_,_,_,h,_,_,_,_,_,_=>by grind[kinds]
 |n+1,0,_,_,_,_,_,_,_,_,_,_,h,_,_,_,_,_=>absurd h axW
 |n+1,d+1,t,ks,vs,us,xs,ys,v,u,r,h,aY,hv,hu,lX,pz,he=>by
  unfold kinds at h;cases aE:P.underlying t with
  |none=>simp_all
  |some desc=>
   simp[aE]at h;have flat:gp P t=false->vs=[v]/\us=[u]:=λhs=>by
    grind[shaped]
   cases desc<;>simp only[reduceCtorEq,aAe]at h;case bool=>
    subst h;obtain⟨rfl,rfl⟩:=flat ayv;obtain⟨x,rfl,ak⟩:=hv.one;obtain⟨y,rfl,wa⟩:=hu.one;obtain⟨p,q,rfl,rfl,rfl⟩:=D7 he;cases ak;cases wa;grind[run_equalIn_bool']
   case int ji=>
    subst h;obtain⟨rfl,rfl⟩:=flat ayv;obtain⟨x,rfl,ak⟩:=hv.one;obtain⟨y,rfl,wa⟩:=hu.one;obtain⟨k,p,q,rfl,rfl,rfl⟩:=Oc he;cases ak;cases wa;simp_all[run_equalIn_int,Oa]
   case string=>
    subst h;obtain⟨rfl,rfl⟩:=flat ayv;obtain⟨x,rfl,ak⟩:=hv.one;obtain⟨y,rfl,wa⟩:=hu.one;obtain⟨p,q,rfl,rfl,rfl⟩:=Od he;cases ak with|str s1 _ h1=>cases wa with|str s2 _ sh=>simp_all[run_equalIn_string,aBI,yY]
   case struct fs=>
    have hs:gp P t=true:=ayv;unfold shaped at lX pz;rw[aAD hs]at lX pz;subst lX;subst pz;split at h
    .rename_i eh;have nr:P.fieldsOf t=fs:=by grind[Program.fieldsOf]
     rw[run_equalIn_struct w d t _ _ axY eh,nr];exact HU (Sh:=shaped P) d (λt ks h cg V off aI=>Bh h cg V aI (Bi h) w) (λt ks vs us xs ys v u r h1 sh av aW bL cW=>Bk n d t ks vs us xs ys v u r h1 axW sh av aW bL cW) ⟨vs⟩ ⟨us⟩ fs.toList 0 ks xs ys r h axY axY axX axX he
    simp_all
theorem aeS{e c:Nat}(h:DZ P e=some c)(n:Nat):kinds P (n+1) e=some [c]/\gp P e=false:=by
 unfold DZ at h;unfold kinds gp;split at h<;>simp_all
def Ea(P:Program)(t:Nat)(vs:List Value)(v:Value):Prop:=match P.underlying t with
 |some (.array _ _)=>v=.agg ⟨vs⟩
 |_=>shaped P t vs v
theorem aeT{n t:Nat}{ks:List Nat}(h:D0 P n t=some ks)(cg:dc P t=some ks.length)(V:Array Value)(off:Nat)(aI:off+ks.length<=V.size):∃v,(part t V off).run P w=.ok v w/\Ea P t ((V.toList.drop off).take ks.length) v:=by
 unfold Ea;unfold D0 at h;split at h
 .rename_i m e aE;have bp:(isAgg t).run P w=.ok true w:=by
   unfold isAgg;rw[aAm,eV aE w];rfl
  unfold part;rw[aAm,bp,aAo];simp only[if_true,aAm,j3 cg,aAo,aAv,aE];refine⟨_,rfl,?_⟩;congr 1;apply aBS;simp
 .have:=Bh h cg V aI (Bi h) w;first|exact this|(split<;>first|exact this|simp_all)
theorem Og{d e c:Nat}(az:DZ P e=some c)(hs:dc P e=some 1)(V U:Array Value):∀(m k:Nat) (xs ys:List D) (r:Bool),cl w G (V.toList.drop k) xs->cl w G (U.toList.drop k) ys->cA (List.replicate m c) xs ys=some r->
  (Op.eqItems (d+1) e 1 V U (List.range' k m)).run P w=.ok r w
 |0,k,xs,ys,r,_,_,he=>by
  obtain⟨h1,sh⟩:=yZ he;have aj:xs=[]:=axY;have aF:ys=[]:=axY;subst aj;subst aF;simp[cA]at he;subst he;rfl
 |m+1,k,xs,ys,r,hv,hu,he=>by
  obtain⟨aq,eh⟩:=aeS az 0;obtain⟨l1,l2⟩:=yZ he;have HV:=hv.length;have HW:=hu.length;simp at l1 l2 HV HW;obtain⟨bN,b5,aj,aF,aZ⟩:=Bg (k1:=[c]) (k2:=List.replicate m c) he;obtain⟨aDl,D',lX⟩:=Bh aq hs V (off:=k) (show k+1<=V.size by omega) (Bi aq) w;obtain⟨pu,HX,pz⟩:=Bh aq hs U (off:=k) (show k+1<=U.size by omega) (Bi aq) w;have rT:=Bk 1 (d+1) e [c] _ _ _ _ aDl pu bN aq axW (hv.take 1) (hu.take 1) lX pz aj;have u3:=Og (d:=d) az hs V U m (k+1) (xs.drop 1) (ys.drop 1) b5 (by have:=hv.drop 1;simp_all) (by have:=hu.drop 1;simp_all) aF;rw[aBl];unfold Op.eqItems;simp only[aB6,aAm,D',aAo,HX,rT];cases bN<;>simp[aZ,u3]
theorem aeU(n d t:Nat)(ks:List Nat)(vs us:List Value)(xs ys:List D)(v u:Value)(r:Bool)(h:pr P n t=some ks)(aY:n+2<=d)(hv:cl w G vs xs)(hu:cl w G us ys)(lX:shaped P t vs v)(pz:shaped P t us u)(he:cA ks xs ys=some r):
  (Op.equalIn (d+1) t v u).run P w=.ok r w:=by
 unfold pr at h;split at h
 .rename_i fs aE;have hs:gp P t=true:=by simp[gp,aE]
  unfold shaped at lX pz;rw[aAD hs]at lX pz;subst lX;subst pz;split at h
  .rename_i eh;have nr:P.fieldsOf t=fs:=by simp[Program.fieldsOf,aE]
   rw[run_equalIn_struct w d t _ _ axY eh,nr];refine HU (G:=G) (Sh:=Ea P) d (λt ks h cg V off aI=>aeT h cg V off aI) (λt ks vs us xs ys v u r h1 sh av aW bL cW=> ?_) ⟨vs⟩ ⟨us⟩ fs.toList 0 ks xs ys r h axY axY axX axX he;unfold Ea at aW bL;unfold D0 at h1;split at h1
   .rename_i m e Oh;try simp only[Oh]at aW bL
    subst aW;subst bL;split at h1
    .rename_i c az;split at h1
     .rename_i nX;cases h1;have hi:∃i,P.info? e=some i/\i.size=1:=by
       unfold dc at nX;cases hi:P.info? e<;>simp_all
      obtain⟨i,hi,nY⟩:=hi;obtain⟨d,rfl⟩:∃k,d=k+2:=⟨d-2,axW⟩;rw[run_equalIn_array w (d+1) _ _ Oh hi,show P.cellsOf e=1 by simp[Program.cellsOf,hi,nY],List.range_eq_range'];exact Og az nX ⟨vs⟩ ⟨us⟩ m 0 xs ys r (by simpa using sh) (by simpa using av) cW
     .cases h1
    .cases h1
   .have auO:∀m e,P.underlying t≠some (.array m e):=by assumption
    have aW:shaped P t vs v:=by first|exact aW|(split at aW<;>simp_all)
    have bL:shaped P t us u:=by first|exact bL|(split at bL<;>simp_all)
    exact Bk n d t ks vs us xs ys v u r h1 axW sh av aW bL cW
  .cases h
 .exact Bk (n+1) (d+1) t ks vs us xs ys v u r h axW hv hu lX pz he
def aAL:=@List.getD_eq_getElem?_getD
def aAj:=@List.getElem?_eq_getElem
def aCS:=@Int.toNat_of_nonneg
def aA5:=@Bool.false_eq_true
def aBw:=@List.flatMap_cons
def aAA:=@List.length_append
def aBb:=@Nat.add_mul
def aBr:=@List.drop_eq_nil_of_le
def aBn:=@List.nil_append
def aBT:=@List.getElem?_drop
def aA':=@Go.Addr.add_mid
def aAi:=@decide_eq_true_eq
def aAn:=@Nat.eq_of_beq_eq_true
theorem ax0(h:p:=by decide):p:=h
theorem Rd.cells{v:Value}{d:D}{ai:Bool}(h:Rd w G v d)(bp:fe ai d=true):∃vs,cl w G vs d.cells/\(if ai then v=.agg ⟨vs⟩else vs=[v])/\(ai=false->∀cs,d≠.agg cs):=by
 cases ai with
 |true=>
  cases d<;>simp[fe]at bp;cases h with|agg vs cs h=>exact⟨vs,h,axX,axX⟩
 |false=>
  have ay:∀cs,d≠.agg cs:=by grind[fe]
  refine⟨[v],?_,axX,λ_=>ay⟩;have:d.cells=[d]:=by cases d<;>first|rfl|simp_all
  rw[this];exact .cons _ _ _ _ h .nil
theorem aeV{t:Nat}{ks:List Nat}{ai:Bool}{u v:Value}{x y:D}{r:Bool}(aq:kinds P 10 t=some ks)(dB:gp P t=ai)(ak:Rd w G u x)(wa:Rd w G v y)(bw:fe ai x=true)(a2:fe ai y=true)
  (he:cA ks x.cells y.cells=some r):(Op.equal t u v).run P w=.ok r w:=by
 grind[Op.equal,Bk,Op.maxDepth,shaped,Rd.cells]
theorem aeW{t:Nat}{ks:List Nat}{ai:Bool}{u v:Value}{x y:D}{r:Bool}(aq:pr P 9 t=some ks)(dB:gp P t=ai)(ak:Rd w G u x)(wa:Rd w G v y)(bw:fe ai x=true)(a2:fe ai y=true)
  (he:cA ks x.cells y.cells=some r):(Op.equal t u v).run P w=.ok r w:=by
 obtain⟨vs,h1,sh,_⟩:=ak.cells bw;obtain⟨us,av,aW,_⟩:=wa.cells a2;unfold Op.equal;exact aeU 9 9999 t ks vs us x.cells y.cells u v r aq ax0 h1 av (by unfold shaped;rw[dB];exact sh) (by unfold shaped;rw[dB];exact aW) he
theorem Eb{d:Nat}{x y:Operand}{bA y':O}{t u t1 t2:Nat}{neg ai:Bool}{ks:List Nat}(p:bT n0 gl nt w G ρ lam a st)(a8:o.dst=some d)(bu:d<nt)
  (bz:o.op=.binOp (if neg then .neq else .eql) t x y u) (ak:bO P t1 x=some bA) (wa:bO P t2 y=some y')
  (aq:pr P 9 t=some ks) (dB:gp P t=ai) (aC:ai=true->P.eqGuardType P.depth t=false) (au:ai=false->P.underlying t=some .bool)
  (hs:step (bx P gl) gl (.eq d neg ai ks bA y') st K):o.wp P a w (cJ n0 gl nt w G ρ K) Q:=by
 obtain⟨fB,h1⟩:=dQ ak p.rel;obtain⟨jd,sh⟩:=dQ wa p.rel;simp[step]at hs;split at hs
 .rename_i m n aj aF;obtain⟨bp,hs⟩:=hs;simp at bp;split at hs
  .rename_i r he;have bN:=h1.hq aj;have b5:=sh.hq aF;have ax:=aeW (P:=P) aq dB bN b5 bp.1 bp.2 he;refine p.value a8 bu (v:=.bool (cond neg (!r) r)) ?_ (.cp (.d _ _ (.bool _))) hs;have auP:(eqGuard (if neg then .neq else .eql) t x y (a.eval x) (a.eval y)).run P w=.ok () w:=by
    cases y0:ai with
    |true=>
     obtain⟨vs,_,q1,_⟩:=bN.cells bp.1;obtain⟨us,_,bF,_⟩:=b5.cells bp.2;simp_all[eqGuard]
    |false=>
     have aeX:=au y0;have:ks=[0]:=by
      grind[pr,kinds]
     rw[this]at he;have hm:m.cells=[m]:=by
      cases m<;>first|rfl|grind[fe]
     have ay:n.cells=[n]:=by
      cases n<;>first|rfl|grind[fe]
     rw[hm,ay]at he;obtain⟨bJ,a6,rfl,rfl,_⟩:=D7 he;cases HY:a.eval x<;>rw[HY]at bN<;>cases bN;exact HT rfl axX
   have auQ:(binOp (if neg then .neq else .eql) t (a.eval x) (a.eval y)).run P w=.ok (.bool (cond neg (!r) r)) w:=by
    have key:binOp .eql t (a.eval x) (a.eval y)=(Op.equal t (a.eval x) (a.eval y)>>= λb=>pure (.bool b))/\binOp .neq t (a.eval x) (a.eval y)=(Op.equal t (a.eval x) (a.eval y)>>= λb=>pure (.bool (!b))):=by
     cases y0:ai with
     |true=>
      obtain⟨vs,_,q1,_⟩:=bN.cells bp.1;obtain⟨us,_,bF,_⟩:=b5.cells bp.2;rw[y0]at q1 bF;rw[q1,bF];exact⟨rfl,rfl⟩
     |false=>
      have aeX:=au y0;have:ks=[0]:=by
       grind[pr,kinds]
      rw[this]at he;have hm:m.cells=[m]:=by
       rw[y0]at bp;cases m<;>first|rfl|grind[fe]
      have ay:n.cells=[n]:=by
       rw[y0]at bp;cases n<;>first|rfl|grind[fe]
      rw[hm,ay]at he;obtain⟨bJ,a6,rfl,rfl,_⟩:=D7 he;cases HY:a.eval x<;>rw[HY]at bN<;>cases bN;cases aeY:a.eval y<;>rw[aeY]at b5<;>cases b5;exact⟨rfl,rfl⟩
    cases neg;all_goals simp_all
   grind[execOp,Sem.run_bind,Result.andThen_ok,Sem.run_pure]
  .exact hs.elim
 .exact hs.elim
theorem aeZ{d:Nat}{x i:Operand}{bA iQ:O}{t t1 t2:Nat}(p:bT n0 gl nt w G ρ lam a st)(a8:o.dst=some d)(bu:d<nt)(bz:o.op=.index t x i)(ak:bO P t1 x=some bA)(hi:bO P t2 i=some iQ)
  (hu:P.underlying t=some .string) (hs:step (bx P gl) gl (.mz d bA iQ) st K):o.wp P a w (cJ n0 gl nt w G ρ K) Q:=by
 obtain⟨fB,h1⟩:=dQ ak p.rel;obtain⟨jd,sh⟩:=dQ hi p.rel;simp only[step]at hs;split at hs
 .rename_i s k n aj aF;rw[aj]at h1;rw[aF]at sh;obtain⟨s1,v1,rfl⟩:=h1.str;have v2:=sh.int;obtain⟨au,hs⟩:=hs;simp at au;obtain⟨hd,dY⟩:=au;have aA:n.toNat<s1.size:=axY;have aC:s1[n.toNat]?=some s1[n.toNat]:=axX;have aY:s1.data.toList.getD n.toNat 0=s1[n.toNat]:=by
   have:n.toNat<s1.data.toList.length:=axY;rw[aAL,aAj this];rfl
  refine p.value a8 bu (v:=.int .u8 s1[n.toNat].toNat) ?_ (.cp (.d _ _ (by rw[aY];exact .int _ _))) hs;simp_all[execOp,Instr.index,asIntOf,eV]
 .exact hs.elim
def wS(v:Option Value)(dflt n:Nat):Prop:=(v=none/\n=dflt)\/∃k,v=some (.int k (n:Int))
theorem Ec{isSlice:Bool}{len cap l h m:Nat}{lo hi mx:Option Value}(aI:wS lo 0 l)(hh:wS hi len h)(hm:wS mx cap m)(h1:l<=h)(sh:h<=m)(av:m<=cap)(ak:hi=none->mx=none):
  (Instr.sliceBounds isSlice len cap lo hi mx).run P w=.ok (l,h,m) w:=by
 have h':∀(k:IntKind) (n y:Nat) (c:BoundsCode),n<=y->(Instr.sliceBound (.int k (n:Int)) y c).run P w=.ok n w:=by
  simp_all[Instr.sliceBound,asIntOf]
 unfold Instr.sliceBounds;rcases hm with⟨rfl,rfl⟩|⟨k1,rfl⟩
 .rcases hh with⟨rfl,rfl⟩|⟨k2,rfl⟩
  .rcases aI with⟨rfl,rfl⟩|⟨fX,rfl⟩
   all_goals simp_all
  .rcases aI with⟨rfl,rfl⟩|⟨fX,rfl⟩
   all_goals simp_all
 .rcases hh with⟨rfl,rfl⟩|⟨k2,rfl⟩
  .simp_all
  .rcases aI with⟨rfl,rfl⟩|⟨fX,rfl⟩
   all_goals simp_all
theorem tp{z:Option Operand}{z':Option O}{dflt n:Int}(p:bT n0 gl nt w G ρ lam a st)(aO:nU P 0 z=some z')(pA:bound gl st dflt z'=some n)(ay:0<=n):wS (z.map a.eval) dflt.toNat n.toNat:=by
 cases z with
 |none=>simp[nU,aAe]at aO;subst aO;simp[bound,aAe]at pA;exact .inl ⟨rfl,axW⟩
 |some q=>
  simp[nU,aA0]at aO;obtain⟨q',aS,rfl⟩:=aO;obtain⟨L,ax⟩:=dQ aS p.rel;simp[bound]at pA;split at pA
  .rename_i k n' e;simp at pA;subst pA;rw[e]at ax;exact .inr ⟨k,by simp[ax.int,aCS ay]⟩
  simp_all
theorem ae0{d:Nat}{x:Operand}{bA:O}{lo hi:Option Operand}{oI jj:Option O}{t t1:Nat}(p:bT n0 gl nt w G ρ lam a st)(a8:o.dst=some d)(bu:d<nt)(bz:o.op=.slice t x lo hi none)(ak:bO P t1 x=some bA)
  (aI:nU P 0 lo=some oI) (hh:nU P 0 hi=some jj)
  (hu:P.underlying t=some .string) (hs:step (bx P gl) gl (.ss d bA oI jj) st K):o.wp P a w (cJ n0 gl nt w G ρ K) Q:=by
 obtain⟨fB,h1⟩:=dQ ak p.rel;simp[step]at hs;split at hs
 .rename_i s aj;rw[aj]at h1;obtain⟨s1,v1,rfl⟩:=h1.str;split at hs
  .rename_i l h el y1;obtain⟨au,hs⟩:=hs;simp at au;obtain⟨⟨hd,dY⟩,u4⟩:=au;have wT:=tp p aI el hd;have wU:=tp p hh y1 axW;have nZ:=Ec (P:=P) (w:=w) (isSlice:=false) (cap:=s1.size) (m:=s1.size) (mx:=none) wT (show wS _ s1.size _ from wU) (.inl ⟨rfl,rfl⟩) axW axY (aAd _) (λ_=>rfl);refine p.value a8 bu (v:=.string (s1.extract l.toNat h.toNat)) ?_ (.cp (.d _ _ (.str _ _ (Lib.extract_data _ _ _)))) hs;simp[execOp,bz,v1,Instr.sliceAt,Instr.slice,aAm,eV hu,aAo,Option.map_none,Option.isSome_none,aA5,aAC,nZ,aAv]
  .exact hs.elim
 .exact hs.elim
theorem di.hr{v:Value}{x:ah}{sz:Nat}{l:List D}{L:Loc}(h:di w G ρ lam L v x)(aI:hr x=some (sz,l)):Rd w G v (.list sz l):=by
 have hs:=h.snap (L':=L);unfold aH.hr at aI;split at aI
 .grind[iV]
 .obtain⟨rfl,rfl⟩:=aI;exact hs.iV
 .obtain⟨rfl,rfl⟩:=aI;exact hs.iV
 simp_all
theorem Rd.slice{v:Value}{sz:Nat}{l:List D}(h:Rd w G v (.list sz l)):∃cF cap,v=.slice cF l.length cap/\l.length<=cap/\(l≠[]->∃b off vs,cF=some ⟨b,off,none⟩/\(∀d,d∈l->d.cells.length=sz)/\iT w G b off vs/\cl w G vs (l.flatMap D.cells)):=by
 cases h with
 |kT cF cap _=>simp
 |list b off n cap _ _ vs h1 sh av aW bL=>subst h1;grind
theorem qA{sz:Nat}:∀{l:List D},(∀d,d∈l->d.cells.length=sz)->(l.flatMap D.cells).length=l.length*sz
 |[],_=>axX
 |d::l,h=>by
  simp[aBw,aAA,aAu,h d axX,qA (l:=l) (λx ak=>h x (by simp[ak]))];rw[aBb];omega
theorem Oi{sz:Nat}:∀{l:List D} {i:Nat} {d:D},(∀d,d∈l->d.cells.length=sz)->l[i]?=some d->((l.flatMap D.cells).drop (i*sz)).take sz=d.cells
 |[],i,d,_,h=>axZ
 |x::l,0,d,hs,h=>axY
 |x::l,i+1,d,hs,h=>by
  have ak:=hs x axX;simp;rw[show(i+1)*sz=x.cells.length+i*sz by rw[ak,aBb];omega,List.drop_append];simp;rw[aBr axW,aBn];exact Oi (λd aY=>hs d (by simp[aY])) h
theorem iT.sub{b off:Nat}{vs:List Value}(h:iT w G b off vs)(k n:Nat):iT w G b (off+k) ((vs.drop k).take n):=by
 intro j v hv;rw[aBQ]at hv;split at hv
 .rw[aBT]at hv;have:=h (k+j) v hv;grind
 simp_all
theorem ae1{d:Nat}{x i:Operand}{bA iQ:O}{t e sz t1 t2:Nat}(p:bT n0 gl nt w G ρ lam a st)(a8:o.dst=some d)(bu:d<nt)(bz:o.op=.indexAddr t x i)(ak:bO P t1 x=some bA)(hi:bO P t2 i=some iQ)
  (hu:P.underlying t=some (.slice e)) (aO:dc P e=some sz) (gu:0<sz) (hs:step (bx P gl) gl (.lQ d bA iQ sz) st K):o.wp P a w (cJ n0 gl nt w G ρ K) Q:=by
 obtain⟨fB,h1⟩:=dQ ak p.rel;obtain⟨jd,sh⟩:=dQ hi p.rel;simp[step]at hs;split at hs
 .rename_i k n aF;rw[aF]at sh;have v2:=sh.int;split at hs
  .rename_i j off len cap ib aj;rw[aj]at h1;obtain⟨au,hs⟩:=hs;simp at au;obtain⟨⟨hd,dY⟩,u4⟩:=au;have cw:=h1;cases cc:a.eval x<;>rw[cc]at cw<;>cases cw;rename_i b au az cg;refine p.value a8 bu (v:=.pointer (some ⟨b,off+n.toNat*sz,none⟩)) ?_ (.cp (.ptr _ _ _ au)) hs;simp[execOp,bz,cc,v2,Instr.indexAt,asIntOf,aAm,aAv,aAo,eV hu,aAD (And.intro dY u4),j3 aO,aA']
  .split at hs
   .rename_i ib l aI;obtain⟨au,hs⟩:=hs;simp only[aAc,aAi]at au;obtain⟨⟨hd,dY⟩,u4⟩:=au;obtain rfl:ib=sz:=aAn hd;have j5:=h1.hr aI;obtain⟨cF,cap,v1,iF,ky⟩:=j5.slice;have ae2:l≠[]:=axZ;obtain⟨b,off,vs,rfl,hw,az,ax⟩:=ky ae2;have aA:=axW;have rU:l[n.toNat]?=some (l.getD n.toNat .dP):=axY;have Oj:=Oi hw rU;refine p.value a8 bu (v:=.pointer (some ⟨b,off+n.toNat*ib,none⟩)) ?_ (.cp (.d _ _ ?_)) hs
    .simp[execOp,bz,v1,v2,Instr.indexAt,asIntOf,aAm,aAv,aAo,eV hu,aAD (And.intro dY u4),j3 aO,aA']
    .have:=Rd.e1 (w:=w) (G:=G) b (off+n.toNat*ib) 0 ((vs.drop (n.toNat*ib)).take ib) _ (az.sub _ _) ((ax.drop (n.toNat*ib)).take ib);simp_all
   .exact hs.elim
 .exact hs.elim
def aBa:=@List.take_of_length_le
def aAw:=@cond_false
def aAG:=@if_neg
def aAV:=@Nat.mul_le_mul_right
def aBp:=@Option.map_some
def aBU:=@List.map_toArray
def aAP:=@List.map_cons
def aBK:=@List.map_nil
theorem ayw(h:p:=by grind[ck.length]):p:=h
theorem azk(h:p:=by rw[aB4];exact .e1 _ _ _ _ _ az ax):p:=h
theorem azK(h:p:=by simp[Builtin.len_,v1,eV hu,aAm,goInt]):p:=h
theorem HZ{sz:Nat}:∀(n:Nat) {q:List D},(∀d,d∈q->d.cells.length=sz)->(q.drop n).flatMap D.cells=(q.flatMap D.cells).drop (n*sz)
 |0,_,_=>axX
 |n+1,[],_=>axX
 |n+1,d::q,h=>by
  have ak:=h d axX;rw[aCx,HZ n (λx ak=>h x (by simp[ak])),aBw,show(n+1)*sz=d.cells.length+n*sz by rw[ak,aBb];omega,List.drop_append];simp only[show d.cells.length+n*sz-d.cells.length=n*sz by omega];rw[aBr (show d.cells.length<=d.cells.length+n*sz by omega),aBn]
theorem Ol{sz:Nat}:∀(n:Nat) {q:List D},(∀d,d∈q->d.cells.length=sz)->(q.take n).flatMap D.cells=(q.flatMap D.cells).take (n*sz)
 |0,_,_=>axX
 |n+1,[],_=>axX
 |n+1,d::q,h=>by
  have ak:=h d axX;rw[aCe,aBw,Ol n (λx ak=>h x (by simp[ak])),aBw,show(n+1)*sz=d.cells.length+n*sz by rw[ak,aBb];omega,List.take_append];simp;rw[aBa (show d.cells.length<=d.cells.length+n*sz by omega)]
theorem ae3{d:Nat}{x:Operand}{bA:O}{lo hi mx:Option Operand}{oI jj H0:Option O}{t t1 e hY:Nat}(p:bT n0 gl nt w G ρ lam a st)(a8:o.dst=some d)(bu:d<nt)(bz:o.op=.slice t x lo hi mx)(ak:bO P t1 x=some bA)
  (aI:nU P 0 lo=some oI) (hh:nU P 0 hi=some jj) (hm:nU P 0 mx=some H0) (auR:hi=none->mx=none)
  (hu:P.underlying t=some (.slice e)) (aO:dc P e=some hY) (hs:step (bx P gl) gl (.aN d hY bA oI jj H0) st K):o.wp P a w (cJ n0 gl nt w G ρ K) Q:=by
 obtain⟨fB,h1⟩:=dQ ak p.rel;simp[step]at hs;split at hs
 .rename_i j off len auS sz aj;rw[aj]at h1;split at hs
  .rename_i l h m el y1 em;obtain⟨au,hs⟩:=hs;simp only[aAc,aAi]at au;obtain⟨⟨⟨⟨iG,hd⟩,dY⟩,u4⟩,Om⟩:=au;obtain rfl:sz=hY:=aAn iG;have cw:=h1;generalize cc:a.eval x=v1 at cw;cases cw with
   |aN _ _ _ _ cap _ b cN iF tq=>
    have wT:=tp p aI el hd;have wU:=tp p hh y1 axW;have rV:=tp p hm em axW;simp at wT wU rV;obtain⟨m2,kW,hle,Ed,H2⟩:∃m2,wS (mx.map a.eval) cap m2/\h.toNat<=m2/\m2<=cap/\m.toNat<=m2:=by
     rcases rV with⟨wb,h1⟩|⟨k,aq⟩
     .exact⟨cap,.inl ⟨wb,rfl⟩,axW,aAd _,axW⟩
     .exact⟨m.toNat,.inr ⟨k,aq⟩,axW,axW,aAd _⟩
    have nZ:=Ec (P:=P) (w:=w) (isSlice:=true) (cap:=cap) wT wU kW axW hle Ed axY;refine p.value a8 bu (v:=.slice (if m2=l.toNat then some ⟨b,off,none⟩else some ((⟨b,off,none⟩:Addr).add (l.toNat*sz))) (h.toNat-l.toNat) (m2-l.toNat)) ?_ (.cp ?_) hs
    .simp only[execOp,bz,cc,Instr.sliceAt,Instr.slice,aAm,eV hu,aAo,nZ,aAv,j3 aO];rfl
    .by_cases On:l=m
     .subst On;simp;have:h.toNat-l.toNat=0:=axW;rw[this];exact .d _ _ (.kT _ _ _)
     .simp[On,decide_false,aAw];rw[aAG axW];simp[aA'];refine .aN _ _ _ _ _ _ _ cN axW ?_;obtain⟨c,E,fz,fO,z2⟩:=tq;refine⟨c,E,fz,fO,aAZ ?_ z2⟩;have:m2*sz<=cap*sz:=aAV _ Ed;rw[Nat.sub_mul];have:l.toNat*sz<=m2*sz:=aAV _ axW;omega
  .exact hs.elim
 .rename_i auT;revert hs;intro hs;split at hs
  .rename_i sz s aj;split at hs
   .rename_i l h m el y1 em;obtain⟨au,hs⟩:=hs;simp only[aAc,aAi]at au;obtain⟨⟨⟨⟨iG,hd⟩,dY⟩,u4⟩,Om⟩:=au;obtain rfl:sz=hY:=aAn iG;have j5:=h1.hr aj;obtain⟨cF,cap,v1,iF,ky⟩:=j5.slice;have wT:=tp p aI el hd;have wU:=tp p hh y1 axW;have rV:=tp p hm em axW;simp at wT wU rV;obtain⟨m2,kW,hle,Ed⟩:∃m2,wS (mx.map a.eval) cap m2/\h.toNat<=m2/\m2<=cap:=by
     rcases rV with⟨wb,h1⟩|⟨k,aq⟩
     .exact⟨cap,.inl ⟨wb,rfl⟩,axW,aAd _⟩
     .exact⟨m.toNat,.inr ⟨k,aq⟩,axW,axW⟩
    have nZ:=Ec (P:=P) (w:=w) (isSlice:=true) (cap:=cap) wT wU kW axW hle Ed axY;have hval:Rd w G (.slice (if m2=l.toNat then cF else cF.map (·.add (l.toNat*sz))) (h.toNat-l.toNat) (m2-l.toNat)) (.list sz ((s.drop l.toNat).take (h.toNat-l.toNat))):=by
     by_cases hlen:h.toNat-l.toNat=0
     .rw[hlen,List.take_zero];exact .kT _ _ _
     .have cB:s≠[]:=by grind
      obtain⟨b,off,vs,rfl,hw,az,ax⟩:=ky cB;have ae4:m2≠l.toNat:=axW;rw[aAG ae4];simp[aBp,aA'];have wV:((s.drop l.toNat).take (h.toNat-l.toNat)).flatMap D.cells=((s.flatMap D.cells).drop (l.toNat*sz)).take ((h.toNat-l.toNat)*sz):=by
       grind[Ol,HZ]
      refine .list b (off+l.toNat*sz) _ _ sz _ ((vs.drop (l.toNat*sz)).take ((h.toNat-l.toNat)*sz)) ?_ axW ?_ (az.sub _ _) ?_
      .grind
      all_goals grind[cl.take,cl.drop]
    refine p.value a8 bu (v:=.slice (if m2=l.toNat then cF else cF.map (·.add (l.toNat*sz))) (h.toNat-l.toNat) (m2-l.toNat)) ?_ (.cp (.d _ _ hval)) hs;simp[execOp,bz,v1,Instr.sliceAt,Instr.slice,aAm,eV hu,aAo,nZ,aAv,j3 aO]
   .exact hs.elim
  .exact hs.elim
theorem Oo{d:Nat}{x:Operand}{bA:O}{t t1:Nat}{str:Bool}(p:bT n0 gl nt w G ρ lam a st)(a8:o.dst=some d)(bu:d<nt)(bz:o.op=.call {callee:=.builtin .len,args:= #[x],argTypes:= #[t]})(ak:bO P t1 x=some bA)
  (hu:if str then P.underlying t=some .string else ∃e,P.underlying t=some (.slice e)) (hs:step (bx P gl) gl (.ni d str bA) st K):o.wp P a w (cJ n0 gl nt w G ρ K) Q:=by
 obtain⟨fB,h1⟩:=dQ ak p.rel;have fC:∀n:Nat,(Builtin.len_ #[t] o.type #[a.eval x]).run P w=.ok (.int .i64 n) w->(execOp a.eval o).run P w=.ok (.value (.int .i64 n)) w:=by
  intro n ay;simp[execOp,bz,resolve,aAm,aAv,aAo,invoke,builtin,aBU,aAP,aBK,ay]
 simp[step]at hs;split at hs
 .rename_i j off len cap sz aj;obtain⟨au,hs⟩:=hs;cases str<;>simp at au;obtain⟨e,hu⟩:=hu;rw[aj]at h1;have cw:=h1;cases cc:a.eval x<;>rw[cc]at cw<;>cases cw;exact p.value a8 bu (fC len (by simp[Builtin.len_,cc,eV hu,aAm,goInt])) (.cp (.d _ _ (.int _ _))) hs
 .rename_i s aj;obtain⟨au,hs⟩:=hs;subst au;rw[aj]at h1;obtain⟨s1,v1,rfl⟩:=h1.str;exact p.value a8 bu (fC s1.size azK) (.cp (.d _ _ (.int _ _))) hs
 .split at hs
  .rename_i sz l aj;obtain⟨au,hs⟩:=hs;cases str<;>simp at au;obtain⟨e,hu⟩:=hu;have j5:=h1.hr aj;obtain⟨cF,cap,v1,iF,_⟩:=j5.slice;exact p.value a8 bu (fC l.length azK) (.cp (.d _ _ (.int _ _))) hs
  .exact hs.elim
theorem ae5{d i:Nat}{x:Operand}{bA:O}{t1:Nat}(p:bT n0 gl nt w G ρ lam a st)(a8:o.dst=some d)(bu:d<nt)(bz:o.op=.extract x i)(ak:bO P t1 x=some bA)
  (hs:step (bx P gl) gl (.ex d bA i) st K):o.wp P a w (cJ n0 gl nt w G ρ K) Q:=by
 obtain⟨fB,h1⟩:=dQ ak p.rel;simp[step]at hs;split at hs
 .rename_i vs aj;obtain⟨au,hs⟩:=hs;rw[aj]at h1;have cw:=h1;cases cc:a.eval x<;>rw[cc]at cw<;>cases cw;rename_i us lu;have aA:i<vs.length:=axY;have tr:i<us.length:=ayw;have aC:(⟨us⟩:Array Value)[i]?=some us[i]:=axX;refine p.value a8 bu (v:=us[i]) ?_ (.cp ?_) hs
  .grind[execOp,Instr.extract,Sem.run_pure]
  grind[ck.get]
 .exact hs.elim
theorem ae6{d f:Nat}{x:Operand}{bA:O}{t t1 n:Nat}{fs:Array Field}{gR:Field}(p:bT n0 gl nt w G ρ lam a st)(a8:o.dst=some d)(bu:d<nt)(bz:o.op=.fieldAddr t x f)(ak:bO P t1 x=some bA)
  (hu:P.underlying t=some (.struct fs)) (bh:fs[f]?=some gR) (aO:dc P gR.type=some n) (gu:0<n) (hs:step (bx P gl) gl (.gK d bA gR.offset) st K):o.wp P a w (cJ n0 gl nt w G ρ K) Q:=by
 obtain⟨fB,h1⟩:=dQ ak p.rel;have fC:∀b off,a.eval x=.pointer (some ⟨b,off,none⟩)->(execOp a.eval o).run P w=.ok (.value (.pointer (some ⟨b,off+gR.offset,none⟩))) w:=by
  intro b off hv;have ay:¬n=0:=axW;simp_all[execOp,Instr.fieldAt,eV,Instr.sureAddr,fieldPlace,j3,aA']
 simp[step]at hs;split at hs
 .rename_i i off aj;rw[aj]at h1;have cw:=h1;cases cc:a.eval x<;>rw[cc]at cw<;>cases cw;rename_i b au;exact p.value a8 bu (fC _ _ cc) (.cp (.ptr _ _ _ au)) hs
 .rename_i s off aj;rw[aj]at h1;obtain⟨b,au,cc⟩:=h1;exact p.value a8 bu (fC _ _ cc) (show di w G ρ lam _ _ (.dT s (off+gR.offset))from⟨b,au,rfl⟩) hs
 .rename_i cs off aj;rw[aj]at h1;have cw:=h1.iV;cases cc:a.eval x<;>rw[cc]at cw<;>cases cw;rename_i b base vs az ax;exact p.value a8 bu (fC _ _ cc) (.cp (.d _ _ azk)) hs
 .exact hs.elim
theorem ae7{d:Nat}{x i:Operand}{bA iQ:O}{t t1 t2 e len n:Nat}(p:bT n0 gl nt w G ρ lam a st)(a8:o.dst=some d)(bu:d<nt)(bz:o.op=.indexAddr t x i)(ak:bO P t1 x=some bA)(hi:bO P t2 i=some iQ)
  (hu:P.underlying t=some (.array len e)) (aO:dc P e=some n) (hs:step (bx P gl) gl (.aa d bA iQ len n) st K):o.wp P a w (cJ n0 gl nt w G ρ K) Q:=by
 obtain⟨fB,h1⟩:=dQ ak p.rel;obtain⟨jd,sh⟩:=dQ hi p.rel;simp[step]at hs;split at hs
 .rename_i k z aF;rw[aF]at sh;have v2:=sh.int;obtain⟨au,hs⟩:=hs;simp at au;have fC:∀b off,a.eval x=.pointer (some ⟨b,off,none⟩)->(execOp a.eval o).run P w=.ok (.value (.pointer (some ⟨b,off+z.toNat*n,none⟩))) w:=by
   intro b off hv;simp[execOp,bz,Instr.indexAt,asIntOf,v2,aAm,aAv,eV hu,aAo,hv,Instr.sureAddr,aBR,aAD (And.intro au.1 au.2),j3 aO,aA']
  split at hs
  .rename_i j off aj;rw[aj]at h1;have cw:=h1;cases cc:a.eval x<;>rw[cc]at cw<;>cases cw;rename_i b eZ;exact p.value a8 bu (fC _ _ cc) (.cp (.ptr _ _ _ eZ)) hs
  .rename_i s off aj;rw[aj]at h1;obtain⟨b,eZ,cc⟩:=h1;exact p.value a8 bu (fC _ _ cc) (show di w G ρ lam _ _ (.dT s (off+z.toNat*n))from⟨b,eZ,rfl⟩) hs
  .rename_i cs off aj;rw[aj]at h1;have cw:=h1.iV;cases cc:a.eval x<;>rw[cc]at cw<;>cases cw;rename_i b base vs az ax;exact p.value a8 bu (fC _ _ cc) (.cp (.d _ _ azk)) hs
  .exact hs.elim
 .exact hs.elim
theorem ae8{d:Nat}{x:Operand}{bA:O}{t1:Nat}(p:bT n0 gl nt w G ρ lam a st)(a8:o.dst=some d)(bu:d<nt)(bz:o.op=.nilCheck x)(ak:bO P t1 x=some bA)
  (hs:step (bx P gl) gl (.wF d bA) st K):o.wp P a w (cJ n0 gl nt w G ρ K) Q:=by
 obtain⟨fB,h1⟩:=dQ ak p.rel;simp[step]at hs;split at hs
 .rename_i i off aj;rw[aj]at h1;have cw:=h1;cases cc:a.eval x<;>rw[cc]at cw<;>cases cw;rename_i b au;exact p.value a8 bu ayf (.cp (.ptr _ _ _ au)) hs
 .rename_i s off aj;rw[aj]at h1;obtain⟨b,au,cc⟩:=h1;exact p.value a8 bu ayf (show di w G ρ lam _ _ (.dT s off)from⟨b,au,rfl⟩) hs
 .rename_i cs off aj;rw[aj]at h1;have cw:=h1.iV;cases cc:a.eval x<;>rw[cc]at cw<;>cases cw;rename_i b base vs az ax;exact p.value a8 bu ayf (.cp (.d _ _ (.e1 _ _ _ _ _ az ax))) hs
 .rename_i f aj;rw[aj]at h1;have cw:=h1.iV;cases cc:a.eval x<;>rw[cc]at cw<;>cases cw;exact p.value a8 bu ayf (.cp (.d _ _ (.fn _))) hs
 .rename_i f fp cs aj;rw[aj]at h1;have cw:=h1;cases cc:a.eval x<;>rw[cc]at cw<;>cases cw;rename_i us vs av aW;exact p.value a8 bu ayf (.cp (.func _ _ _ _ _ av aW)) hs
 .exact hs.elim
theorem Oq{d:Nat}{x y:Operand}{bA y':O}{lt:Bool}{ts:Array TypeId}{t1 t2:Nat}(p:bT n0 gl nt w G ρ lam a st)(a8:o.dst=some d)(bu:d<nt)(bz:o.op=.call {callee:=.builtin (if lt then .min else .max),args:= #[x,y],argTypes:=ts})(ak:bO P t1 x=some bA)(wa:bO P t2 y=some y')
  (hs:step (bx P gl) gl (.qm d lt bA y') st K):o.wp P a w (cJ n0 gl nt w G ρ K) Q:=by
 obtain⟨fB,h1⟩:=dQ ak p.rel;obtain⟨jd,sh⟩:=dQ wa p.rel;simp[step]at hs;split at hs
 .rename_i k m k' n aj aF;rw[aj]at h1;rw[aF]at sh;have v1:=h1.int;have v2:=sh.int;obtain⟨lW,hs⟩:=hs;refine p.value a8 bu (v:=.int k (cond (cond lt (decide (n<m)) (decide (m<n))) n m)) ?_ (.cp (.d _ _ (.int _ _))) hs;cases lt
  .simp only[execOp,bz,resolve,aAm,aAv,aAo,invoke,builtin,aBU,aAP,aBK,v1,v2,aA5,aAC,Builtin.max_,List.foldlM_cons,List.foldlM_nil,Builtin.max2];simp
  .simp only[execOp,bz,resolve,aAm,aAv,aAo,invoke,builtin,aBU,aAP,aBK,v1,v2,if_true,Builtin.min_,List.foldlM_cons,List.foldlM_nil,Builtin.min2];simp
 .exact hs.elim
end
theorem axV(h:p:=by kernel_rfl):p:=h
theorem Ot:∀a b:List UInt8,DT a b=Lib.compareBytes a b
 |[],[]=>rfl
 |[],_::_=>rfl
 |_::_,[]=>rfl
 |a::x,b::y=>by
  simp[DT,Lib.compareBytes,Ot x y];by_cases h:a<b
  .simp[h]
  .by_cases sh:b<a<;>simp[h,sh]
theorem ae9{fn:Func}(h:fn.name= "internal/bytealg.abigen_runtime_cmpstring")(bd:fn.origin= ""):Extern.findNext fn=none/\Extern.find fn=some Extern.BytealgCompare.compare:=by
 constructor
 .unfold Extern.findNext;have h1:Extern.allNextRows.lookup "internal/bytealg.abigen_runtime_cmpstring" =none:=axV;have sh:Extern.allNextRows.lookup "" =none:=axV;grind
 .unfold Extern.find;have h1:Extern.allGenericRows.lookup "internal/bytealg.abigen_runtime_cmpstring" =none:=axV;have sh:Extern.allTypedRows.lookup "internal/bytealg.abigen_runtime_cmpstring" =none:=axV;have av:Extern.allRows.lookup "internal/bytealg.abigen_runtime_cmpstring" =some Extern.BytealgCompare.compare:=axV;grind
section
variable {P:Program}{gl:Nat->List D}{n0 nt:Nat}{a:Act}{w w':World}{G G':bI}{ρ ρ':List Nat}{lam lam':Nat->Option Nat}{st aT:ag}{K:ag->Prop}{o:Oper}{Q:Exit->Act->World->Prop}
theorem ae'{d f k:Nat}{c:Call}{x y:Operand}{bA y':O}{t1 t2:Nat}(p:bT n0 gl nt w G ρ lam a st)(a8:o.dst=some d)(bu:d<nt)(bz:o.op=.call c)(az:c.callee=.value (.func f))(bp:c.args.toList=[x,y])
  (he:HF P f=some k) (ak:bO P t1 x=some bA) (wa:bO P t2 y=some y') (hs:step (bx P gl) gl (.cr d k bA y') st K):o.wp P a w (cJ n0 gl nt w G ρ K) Q:=by
 obtain⟨fB,h1⟩:=dQ ak p.rel;obtain⟨jd,sh⟩:=dQ wa p.rel;simp[step]at hs;split at hs
 .rename_i s1 s2 aj aF;rw[aj]at h1;rw[aF]at sh;obtain⟨bJ,v1,rfl⟩:=h1.str;obtain⟨a6,v2,rfl⟩:=sh.str;split at hs
  .rename_i r ax;unfold HF at he;split at he
   .rename_i fn wW;split at he
    .rename_i au;simp at he;subst he;simp[HC,aAe]at ax;subst ax;simp at au;obtain⟨⟨au,tm⟩,bd⟩:=au;obtain⟨f1,f2⟩:=ae9 tm bd;refine p.value a8 bu (v:=.int .i64 (Lib.compareBytes bJ.data.toList a6.data.toList)) ?_ (.cp (.d _ _ (by rw[<-Ot];exact .int _ _))) hs;have wX:(c.args.map a.eval)= #[.string bJ,.string a6]:=by
      grind[Array.toList_map]
     have bh:a.eval (.func f)=.func (.func f) #[] #[]:=rfl;simp_all[execOp,resolve,Deferred.ofValue,invoke,run_callFunc_extern,Lib.run_compareString]
    simp_all
   simp_all
  .exact hs.elim
 .exact hs.elim
end
end Go.aH
