/- Part of ranges_said. -/
import Derived.Test.YthffhbakgmemaaaGreatDoorM5
import Derived.Deep.DeepLaidRun
import Derived.SevenTiedAt
import Derived.Lib.AppendIntMem
import Derived.Lib.AppendZerosOnto
set_option linter.defProp false
set_option maxRecDepth 100000
set_option maxHeartbeats 8000000
set_option linter.unusedSimpArgs false
set_option linter.unusedVariables false
namespace Go.aH
variable {p:Prop}
def aBO:=@Option.some.inj
def Cx(x:Lit×DataW Unit):Option (List UInt8×D):=match x with
 |(.string b,.lit (.int k z))=>some (b,.int k z)
 |_=>none
def xI:List (List UInt8)->Bool
 |[]=>true
 |a::l=>!l.contains a&&xI l
def Cy(P:Program):Nat->Nat->DataW Unit->Option (List D)
 |0,_,_=>none
 |n+1,t,d=>match P.underlying t,d with
  |some (.int _),.lit (.int k z)=>some [.int k z]
  |some .string,.lit (.string b)=>some [.str b]
  |some (.array m e),.agg ps=>cond (Nat.beq (P.cellsOf t) (m*P.cellsOf e)) ((ps.mapM (Cy P n e)).bind λl=>cond (l.all λx=>Nat.beq x.length (P.cellsOf e)) (some l.flatten) none) none
  |some (.interface _),.iface _ _=>some [.hT]
  |some (.map k e),.map es=>match P.underlying k,P.underlying e with
   |some .string,some (.int _)=>(es.mapM Cx).bind λl=>cond (xI (l.map (·.1))) (some [.ln (l.map λx=>.str x.1) (l.map (·.2))]) none
   |_,_=>none
  |_,_=>none
abbrev Cz(l:List (List UInt8×D)):List (D×ah):=yT (l.map λx=>.str x.1) (l.map (·.2))
theorem SP(x:List UInt8×D)(l:List (List UInt8×D)):Cz (x::l)=(.str x.1,.d x.2)::Cz l:=rfl
theorem akW(ai:Bool)(lT:List Nat)(k:D):(∀s,cond (fe ai (.str s)) (cA lT k.cells [.str s]) none=none)\/∃fq,∀s,fe ai (.str s)=true/\cA lT k.cells [.str s]=some (decide (fq=s)):=by
 cases ai with
 |true=>exact .inl λs=>rfl
 |false=>
  match lT,k.cells with
  |[],[]=>exact .inl λs=>rfl
  |[],_::_=>exact .inl λs=>rfl
  |_::_,[]=>grind[cA]
  |[2],[.str p]=>exact .inr ⟨p,λs=>⟨rfl,by simp[cA]⟩⟩
  |[2],.str p::a::l=>grind[cA]
  |2::a::l,.str p::m=>grind[cA]
  |0::l,a::m=>grind[cA]
  |1::l,a::m=>grind[cA]
  |(n+3)::l,a::m=>simp_all[cA]
  |2::l,.bool _::m|2::l,.int _ _::m|2::l,.list _ _::m|2::l,.agg _::m|2::l,.dP::m|2::l,.hS::m|2::l,.ll::m|2::l,.iy::m|2::l,.fn _::m|2::l,.e1 _ _::m|2::l,.iface _ _::m
  |2::l,.ln _ _::m|2::l,.hT::m=>grind[cA]
theorem akX{ai:Bool}{lT:List Nat}{k:D}(h:∀s,cond (fe ai (.str s)) (cA lT k.cells [.str s]) none=none)(x:List UInt8×D)(l:List (List UInt8×D))(i:Nat):e3 ai lT k (Cz (x::l)) i=none:=by
 rw[SP];have:=h x.1;simp[e3];cases au:fe ai (.str x.1)with
 |false=>rfl
 |true=>
  rw[au]at this;have az:(D.str x.1).cells=[.str x.1]:=rfl;simp_all
theorem KF{ai:Bool}{lT:List Nat}{k:D}{fq:List UInt8}(h:∀s,fe ai (.str s)=true/\cA lT k.cells [.str s]=some (decide (fq=s))):∀(l:List (List UInt8×D)) (i:Nat),
  (e3 ai lT k (Cz l) i=some none/\∀x,x∈l->x.1≠fq)\/∃j x,e3 ai lT k (Cz l) i=some (some (i+j))/\l[j]?=some x/\x.1=fq
 |[],i=>.inl ⟨rfl,axX⟩
 |x::l,i=>by
  rw[SP];obtain⟨h1,sh⟩:=h x.1;have az:(D.str x.1).cells=[.str x.1]:=rfl;simp only[e3,h1,aAg,az,sh];by_cases ak:fq=x.1
  .simp only[ak,decide_true];exact .inr ⟨0,x,rfl,rfl,rfl⟩
  .rcases KF h l (i+1)with⟨aj,aF⟩|⟨j,y,aj,aF,aZ⟩
   .grind
   .exact .inr ⟨j+1,y,axZ,axY,aZ⟩
theorem SQ:∀{l:List (List UInt8×D)},xI (l.map (·.1))=true->∀{x y:List UInt8×D},x∈l->y∈l->x.1=y.1->x=y
 |[],_,x,y,ak,_,_=>axY
 |a::l,h,x,y,ak,wa,e=>by
  simp[aAP,xI,aAc,aAE]at h;have akY:∀z,z∈l->z.1≠a.1:=λz aO he=>axZ;rcases aAs.1 ak with ak|ak<;>rcases aAs.1 wa with wa|wa
  .simp_all
  .simp_all
  .simp_all
  .exact SQ h.2 ak wa e
theorem akZ{l m:List (List UInt8×D)}(hp:∀x,x∈m↔x∈l)(ay:xI (l.map (·.1))=true):HL (m.map λx=>.str x.1) (m.map (·.2)) (l.map λx=>.str x.1) (l.map (·.2)):=by
 intro ai lT k;rcases akW ai lT k with h|⟨fq,h⟩
 .cases l with
  |nil=>
   have:m=[]:=List.eq_nil_iff_forall_not_mem.2 λx ak=>axY;simp_all
  |cons x l=>
   grind[akX]
 .have aI:=KF h l 0;have hm:=KF h m 0;refine⟨λcG=> ?_,λj d aK aY=> ?_⟩
  .grind
  .rcases aI with⟨aj,_⟩|⟨ku,x,aj,aF,aZ⟩
   .simp_all
   .rw[aK]at aj;simp at aj;subst aj;rw[aA4,aF]at aY;have KG:=(hp x).2 (aAM aF);rcases hm with⟨_,bP⟩|⟨ak0,y,bP,cK,dO⟩
    .simp_all
    .refine⟨ak0,axY,?_⟩;have:=SQ ay ((hp y).1 (aAM cK)) (aAM aF) axY;simp_all
theorem SR{H:Type}(x:Lit×DataW H):∀(l:List (Lit×DataW H)) (y:Lit×DataW H),y∈DataW.insert x l↔y=x\/y∈l
 |[],y=>by simp[DataW.insert]
 |z::l,y=>by
  simp[DataW.insert];split
  .simp
  .simp[aAs,SR x l y];constructor
   .rintro(h|h|h)<;>simp[h]
   .rintro(h|h|h)<;>simp[h]
theorem KH{H:Type}:∀(l:List (Lit×DataW H)) (y:Lit×DataW H),y∈l.foldr DataW.insert []↔y∈l
 |[],y=>axX
 |x::l,y=>by rw[List.foldr_cons,SR,KH l y];simp
def xJ(x:Lit×DataW Unit):List UInt8×D:=match x with
 |(.string b,.lit (.int k z))=>(b,.int k z)
 |_=>([],.dP)
theorem ak1{x:Lit×DataW Unit}{y:List UInt8×D}(h:Cx x=some y):xJ x=y:=by
 unfold Cx at h;grind[xJ]
theorem SS:∀{l:List (Lit×DataW Unit)} {r:List (List UInt8×D)},l.mapM Cx=some r->l.map xJ=r
 |[],r,h=>axY
 |x::l,r,h=>by
  simp only[aCk,aA8,aAq,aCF,aAe]at h;obtain⟨b,au,fN,gS,rfl⟩:=h;rw[aAP,ak1 au,SS gS]
section
variable {P:Program}{W:World}
theorem ak2{k:Nat}{v:Value}{key:Lit}(aq:P.underlying k=some .string)(h:keyOf P k v=some key):∃s:ByteArray,v=.string s/\key=.string s.data.toList:=by
 unfold keyOf at h;cases v<;>simp[mapKey,aq]at h;simp_all
theorem ak3{e:Nat}{v:Value}{ho k:IntKind}{n:Int}(he:P.underlying e=some (.int ho))(bh:v.formed P e=true)(az:v.cells.toList=[.int k n]):v=.int k n:=by
 cases v<;>simp_all[Value.formed,Value.cells]
theorem ak4{k e b fuel:Nat}{ho:IntKind}{enc:TypeId×Value->Unit}{sp:Nat->Bool}{es:List (Lit×DataW Unit)}{ps:List MemPlace}{l:List (List UInt8×D)}(aq:P.underlying k=some .string)(he:P.underlying e=some (.int ho)){E:Array MapEntry}{clock:Nat}
  (au:W.heap[b]?=some (.map E clock))
  (h1:((E.toList.mapM λx=>(keyOf P k x.key).bind λkey=>if x.val.formed P e then(DataW.trod enc P W 0 sp false fuel e x.val.cells.toList).map λy=>((key,y.1),y.2)else none).bind λentries=>
   let sorted:=(entries.map (·.1)).foldr DataW.insert [];if DataW.rising sorted then some (DataW.map sorted,MemPlace.map b::entries.flatMap (·.2))else none)=some (.map es,ps))
  (aI:es.mapM Cx=some l) (ay:xI (l.map (·.1))=true):Rd W G0 (.map (some b)) (.ln (l.map λx=>.str x.1) (l.map (·.2))):=by
 obtain⟨entries,hm,sh⟩:=aAq.1 h1;simp only at sh;split at sh
 .simp at sh;have Kb:=Lib.mapM_length hm;have key:∀(j:Nat) (x:MapEntry),E.toList[j]?=some x->∃(s:ByteArray) (q:IntKind) (n:Int),x.key=.string s/\x.val=.int q n/\((entries.map (·.1)).map xJ)[j]?=some (s.data.toList,.int q n):=by
   intro j x ak;obtain⟨y,FP,CA⟩:=Lib.mapM_at hm j x ak;obtain⟨av0,ak5,SU⟩:=aAq.1 CA;obtain⟨s,BH,rfl⟩:=ak2 aq ak5;split at SU
   .rename_i bh;obtain⟨z,r2,rfl⟩:=aA0.1 SU;grind[DataW.trod_int,ak3,xJ]
   simp_all
  have BF:HL (((entries.map (·.1)).map xJ).map λx=>.str x.1) (((entries.map (·.1)).map xJ).map (·.2)) (l.map λx=>.str x.1) (l.map (·.2)):=by
   refine akZ (λx=> ?_) ay;rw[<-SS aI,<-sh.1];simp only[aAR];constructor
   .rintro⟨y,⟨z,aO,rfl⟩,rfl⟩;exact⟨z.1,(KH _ _).2 (aC3 aO),rfl⟩
   .rintro⟨y,wa,rfl⟩;have:=(KH _ _).1 wa;grind
  refine .ln b (E.toList.map (·.key)) (E.toList.map (·.val)) _ _ _ _ ⟨E,clock,⟨rfl,rfl,au⟩,rfl,rfl⟩ (.mk axY λj v x hv ak=> ?_) (.mk axY λj v x hv ak=> ?_) BF
  .rw[aA4,aA0]at hv ak;obtain⟨y,wa,rfl⟩:=hv;obtain⟨z,aO,rfl⟩:=ak;obtain⟨s,q,n,aj,aF,aZ⟩:=key j y wa;rw[aO]at aZ;obtain rfl:=aBO aZ;rw[aj];exact .str _ _ rfl
  .rw[aA4,aA0]at hv ak;obtain⟨y,wa,rfl⟩:=hv;obtain⟨z,aO,rfl⟩:=ak;obtain⟨s,q,n,aj,aF,aZ⟩:=key j y wa;rw[aO]at aZ;obtain rfl:=aBO aZ;rw[aF];exact .int _ _
 simp_all
theorem SV(sz:Nat):∀(l:List (List D)) (cs:List Value),cs.length=l.length*sz->(∀x,x∈l->x.length=sz)->(∀(i:Nat) x,l[i]?=some x->cl W G0 ((cs.drop (i*sz)).take sz) x/\∀v,v∈(cs.drop (i*sz)).take sz->v.oneCell'=true)->cl W G0 cs l.flatten/\∀v,v∈cs->v.oneCell'=true
 |[],cs,h,_,_=>by
  have:cs=[]:=axY;subst this;exact⟨.nil,axX⟩
 |x::l,cs,h,ak,ax=>by
  have wb:=ax 0 x rfl;simp at wb;have aI:(cs.drop sz).length=l.length*sz:=by
   grind[Nat.add_mul]
  have ih:=SV sz l (cs.drop sz) aI (λy wa=>ak y axZ) (λi y wa=>by
   have:=ax (i+1) y axY;simp_all[aBb,Nat.add_comm])
  have gU:=(aCq sz cs).symm;refine⟨?_,λv hv=> ?_⟩
  .rw[gU];exact wb.1.append ih.1
  grind
theorem ak6{enc:TypeId×Value->Unit}{sp:Nat->Bool}:∀(n fuel t:Nat) (cs:List Value) (d:DataW Unit) (ps:List MemPlace) (ds:List D),
  DataW.trod enc P W 0 sp false fuel t cs=some (d,ps)->Cy P n t d=some ds->cl W G0 cs ds/\∀v,v∈cs->v.oneCell'=true:=by
 intro n;induction n with
 |zero=>simp_all[Cy]
 |succ n ih=>
  intro fuel t cs d ps ds h1 sh;cases fuel with
  |zero=>simp_all[DataW.trod]
  |succ fuel=>
   simp[Cy]at sh;split at sh
   .rename_i ji k z hu;obtain⟨m,rfl,he,_⟩:=DataW.trod_int hu h1;obtain⟨⟨rfl,rfl⟩,_⟩:=he;simp at sh;subst sh;exact⟨.cons _ _ _ _ (.int _ _) .nil,ayh⟩
   .rename_i b hu;obtain⟨m,rfl,he,_⟩:=aC2 hu h1;obtain⟨rfl,_⟩:=he;simp at sh;subst sh;exact⟨.cons _ _ _ _ (.str _ _ rfl) .nil,ayh⟩
   .rename_i m e pl hu;cases au:Nat.beq (P.cellsOf t) (m*P.cellsOf e)with
    |false=>simp_all
    |true=>
     rw[au]at sh;have au:=aAn au;simp[aAg,aAq]at sh;obtain⟨l,aI,sh⟩:=sh;cases gT:(l.all λx=>Nat.beq x.length (P.cellsOf e))with
     |false=>simp_all
     |true=>
      rw[gT]at sh;simp at sh;subst sh;simp only[DataW.trod,hu]at h1;split at h1
      .rename_i ig;obtain⟨xs,hm,ak⟩:=aA0.1 h1;have lY:xs.map (·.1)=pl:=axY;have qO:=by simpa using Lib.mapM_length hm
       have oK:l.length=m:=by grind[Lib.mapM_length]
       refine SV (P.cellsOf e) l cs axY (λx ak=>aAn (aAx.1 gT x ak)) (λi x hi=> ?_);have nz:i<m:=axZ;obtain⟨b,hd,dY⟩:=Lib.mapM_at hm i i axY;have ak7:pl[i]?=some b.1:=axZ;obtain⟨y,FP,CA⟩:=Lib.mapM_at aI i b.1 ak7;grind
      simp_all
   .rename_i ms nm y hu;simp at sh;subst sh;unfold DataW.trod at h1;split at h1<;>simp_all;exact⟨.cons _ _ _ _ (.hT _ _) .nil,ayh⟩
   .rename_i k e es hu;split at sh
    .rename_i aq he;simp[aAq]at sh;obtain⟨l,aI,sh⟩:=sh;cases ay:xI (l.map (·.1))with
     |false=>simp_all
     |true=>
      rw[ay]at sh;simp at sh;subst sh;unfold DataW.trod at h1;rw[hu]at h1;split at h1;all_goals first
       |(rename_i hh;simp at hh;done)
       |(rename_i hh _;done)
       |(simp at h1)
       |skip
      rename_i H2;obtain⟨rfl,rfl⟩:=H2;split at h1
      .rename_i E clock au;split at h1
       .exact⟨.cons _ _ _ _ (ak4 aq he au h1 aI ay) .nil,ayh⟩
       simp_all
      simp_all
    simp_all
   simp_all
theorem SW{W:World}:∀{l:List (String×DataW Unit)} {ps:List MemPlace},DataW.LaidVars P W l ps->∀{nm:String} {d:DataW Unit},(nm,d)∈l->
  ∃g t cs fuel p,P.globalNamed nm=some g/\(P.globals[g]?).map (·.type)=some t/\W.var? P nm=some cs/\DataW.trod (λ_=>()) P W 0 (λ_=>true) false fuel t cs.toList=some (d,p)
 |[],_,_,_,_,h=>axZ
 |(n,d0)::r,ps,aI,nm,d,h=>by
  obtain⟨g,t,cs,fuel,p,q,aj,aF,aZ,bP,cK,_⟩:=aI;rcases aAs.1 h with h|h
  .grind
  .exact SW cK h
theorem ug{W:World}{l:List (String×DataW Unit)}{ps:List MemPlace}(h:DataW.LaidVars P W l ps){nm:String}{d:DataW Unit}(aY:(nm,d)∈l){g t n:Nat}{ds:List D}(aC:P.globalNamed nm=some g)(aE:(P.globals[g]?).map (·.type)=some t)(aI:Cy P n t d=some ds):
  ∃vs,iT W G0 g 0 vs/\cl W G0 vs ds/\(ds.length=0\/∃c E fz,yS W G0 g (.cells c E fz)/\c.size=ds.length):=by
 obtain⟨n8,ek,cs,fuel,p,aj,aF,aZ,bP⟩:=SW h aY;obtain rfl:=aBO (aC.symm.trans aj);obtain rfl:=aBO (aE.symm.trans aF);obtain⟨bN,b5⟩:=ak6 n fuel t cs.toList d p ds bP aI;refine⟨cs.toList,λj v hv=> ?_,bN,.inr ?_⟩;rotate_left
 .have CB:=aZ;unfold World.var? at CB;rw[aC]at CB;simp at CB;split at CB
  .rename_i c E fz au;refine⟨c,E,fz,⟨rfl,rfl,au⟩,?_⟩;have:=aBO CB;subst this;have:=bN.length;omega
  simp_all
 have aK:j<cs.size:=axZ;refine⟨?_,λL n h=>by grind[G0],b5 v (List.mem_of_getElem? hv)⟩;have:=World.var?_cell aC aZ j;simp_all
end
mutual
def oW:DataW Unit->List Value
 |.lit (.int k n)=>[.int k n]
 |.lit (.string b)=>[.string ⟨b.toArray⟩]
 |.agg ps=>SX ps
 |_=>[]
def SX:List (DataW Unit)->List Value
 |[]=>[]
 |d::l=>oW d++SX l
end
def ak8:DataW Unit->Array MapEntry
 |.map es=>(es.zipIdx.map λx=>⟨(oW (.lit x.1.1)).headD .nilIface,(oW x.1.2).headD .nilIface,x.2⟩).toArray
 |_=> #[]
def oX(h:Array Obj)(g:Nat)(vs:List Value):Array Obj:=h.modify g λ
 |.cells _ t f=>.cells vs.toArray t f
 |o=>o
theorem ak9(P:Program)(c:OpenClaim)(hs:c.start=.entering)(h:∀f,P.goes f=false):false=c.goesBy P:=by
 unfold OpenClaim.goesBy Program.goesAt Program.goesFrom;rw[hs];cases P.funcNamed c.func with
 |none=>rfl
 |some f=>grind
theorem ak'(P:Program)(SY:(P.funcs.any Func.goes)=false)(f:FuncId):P.goes f=false:=by
 unfold Program.goes;grind
def lt:List (Nat×ah)->Nat->ah
 |[]=>λ_=>.undef
 |(k,v)::l=>cC (lt l) k v
def fV:List (Nat×List ah)->Nat->Option (List ah)
 |[]=>λ_=>none
 |(k,v)::l=>cC (fV l) k (some v)
def cx(l:List (Nat×ah))(s:aU):ag:=⟨lt l,λ_=>none,s⟩
def pV(l:List (Nat×ah))(b:List (Nat×List ah))(s:aU):ag:=⟨lt l,fV b,s⟩
theorem av1{P:Program}{gl:Nat->List D}{α:Type}{f:Nat}{cM:aX}{dN:List ah}(mk:α->ah)(p:α->Prop)(h:a7 P f cM)(ax:lS (fR P gl) gl cM dN [] λr s'=>(∃x,p x/\r=mk x)/\s'=[]):∃x,p x/\bG P gl f dN [] (mk x) []:=by
 grind[a7.ext]
theorem k6{b:Bool}{A B:Prop}(h:b=true)(bp:A):cond b A B:=axY
theorem KI{b:Bool}{A B:Prop}(h:b=false)(au:B):cond b A B:=axY
theorem ala{b:Bool}{A B:Prop}(h:b=false)(bp:A):cond (!b) A B:=axY
theorem alb{b:Bool}{A B:Prop}(h:b=true)(au:B):cond (!b) A B:=axY
theorem eK{b:Bool}{A B:Prop}(h1:b=true->B)(sh:b=false->A):cond (cond false b (!b)) A B:=axY
theorem SZ{b:Bool}{A B:Prop}(h1:b=true->A)(sh:b=false->B):cond (cond true b (!b)) A B:=axY
theorem av2{b:Bool}{q:Prop}(h:b=true)(aS:q):b=true/\q:=⟨h,aS⟩
theorem eE{b:Bool}{A B:Prop}(h1:b=true->A)(sh:b=false->B):cond b A B:=axY
theorem S0{b:Bool}{A B:Prop}(h1:b=false->A)(sh:b=true->B):cond (!b) A B:=axY
theorem S1{b c:Bool}(h:b=c):(!b)=!c:=h▸rfl
theorem e6{b c:Bool}{A B:Prop}(k:cond c A B)(h:b=c:=by first|assumption|exact S1 ax9):cond b A B:=axY
theorem av3{b:Bool}{q:Prop}(aS:q)(h:b=true:=by kernel_rfl):b=true/\q:=⟨h,aS⟩
theorem e7{b:Bool}{q:Prop}(aS:q)(h:b=true:=by rfl):b=true/\q:=⟨h,aS⟩
theorem KJ{P:Program}{gl:Nat->List D}{f:Nat}{dN CC:List ah}{s s':aU}{r:ah}{t:aU}{K:ah->aU->Prop}(h:bG P gl f dN s r t)(h1:CC=dN)(sh:s'=s)(aq:K r t):∃r s2,bG P gl f CC s' r s2/\K r s2:=axZ
theorem FQ{P:Program}{gl:Nat->List D}{call:Nat->List ah->aU->Out}{f:Nat}{g:UInt8->Bool}(az:gX P gl call)
  (h:((List.range 256).all λn=>match call f [.d (.int .u8 n)] []with|some (.d (.bool b),[])=>b==g (UInt8.ofNat n)|_=>false)=true) (c:UInt8):bG P gl f [.d (gk c)] [] (.d (.bool (g c))) []:=by
 have:=aAx.1 h c.toNat (aBi.2 c.toNat_lt);split at this
 .rename_i b au;have Kn:b=g (UInt8.ofNat c.toNat):=axY;rw[UInt8.ofNat_toNat]at Kn;subst Kn;exact az _ _ _ _ _ au
 simp_all
def aAf:=@Eq.trans
def aCM:=@Nat.zero_lt_succ
def aC7:=@Nat.succ_lt_succ
def aAh:=@Int.ofNat_eq_natCast
theorem azv(h:p:=by refine oh _ ?_;rfl):p:=h
structure bm where
 io:BinOp->IntKind->Int->Int->Int
 aD:BinOp->Int->Int->Bool
 wr:IntKind->Int->Int
 len:List D->Nat
 get:List D->Int->D
 app:List D->List D->List D
 sub:List D->Int->Int->List D
 gap:Nat->Nat->Nat->Nat->Nat->Nat->Bool
 FR:Nat->Nat->Nat->Int->Nat->Nat->Bool->Bool
 er:Nat->Nat->Int->Nat->Bool
 FT:Int->Nat->Bool
 oY:Int->Int->Nat->Bool
 ev:List UInt8->Nat
 CD:List UInt8->Int->UInt8
 cQ:List UInt8->List UInt8->List UInt8
 iK:List UInt8->Int->Int->List UInt8
 bq:BinOp->List UInt8->List UInt8->Bool
 fJ:List UInt8->List UInt8->Bool
 h':List UInt8->List D
 og:List Nat->List D->List D->Option Bool
 look:Bool->List Nat->D->List D->List D->Option (Option D)
 l9:Nat->Int->Nat->Nat
 hL:Nat->Nat->List ah->Bool->Bool
 mR:Bool->Nat->Nat->List ah->Bool->Bool
 zT:Nat->List ah->Bool
 zU:Bool->Nat->Nat->Nat->List ah->Bool
 vG:Int->Int->Bool
 pW:Bool->Int->Int->Int->Nat->Bool
 jS:List ah->Nat->ah
 CF:List ah->Nat->ah
 oZ:List ah->Nat->Nat->ah
 lC:List ah->Nat->List ah->Option (List ah)
 CG:List ah->Nat->Option (List ah)
 zV:List ah->Nat->Nat->List ah->Option (List ah)
 xK:Nat->List ah->Option (List ah)
 ns:Int->Int->Nat
 zW:List fc->List fc->Option (List fc)
 lD:Nat->Nat->Nat
 zX:Nat->Nat->Nat->Nat->Nat->Bool
 xL:List fc->Option (List ah)
 CH:Nat->Nat->Nat->Nat->List ah->Option D
 KK:Bool->Int->List D->Bool
 CI:Nat->List D->Int->ah
 xM:b9->List Nat
 xN:(Nat->Nat)->b9->b9
 xO:Nat->b9->Bool
 xP:Bool->List Nat->D->List (D×ah)->Option (Option ah)
 xQ:Bool->List Nat->D->ah->List (D×ah)->Option (List (D×ah))
def KL{R:Type}(v:ah)(K:ah->R):R:=match v with
 |.d x=>K (.d x)
 |v=>K v
theorem S2{R:Type}(v:ah)(K:ah->R):KL v K=K v:=by cases v<;>rfl
def vH{α R:Type}(A:mB R)(o:Option α)(K:α->R):R:=match o with
 |some x=>K x
 |none=>A.fail
def alc{R:Type}(A:mB R)(b:Bool)(x:Unit->R):R:=match b with
 |true=>x ()
 |false=>A.fail
def S3{R:Type}(l:List Nat)(K:List Nat->R):R:=match l with
 |[]=>K []
 |i::t=>K (i::t)
theorem ald{R:Type}(l:List Nat)(K:List Nat->R):S3 l K=K l:=by cases l<;>rfl
def ke{R:Type}(b:Bool)(x y:Unit->R):R:=match b with
 |true=>x ()
 |false=>y ()
theorem S4{R:Type}(b:Bool)(x y:Unit->R):ke b x y=cond b (x ()) (y ()):=by cases b<;>rfl
theorem oh{α:Type}(b:Bool){x y:Unit->α}(h:x ()=y ()):ke b x y=y ():=by
 cases b
 .rfl
 .exact h
def sy(ai:Bool)(ks:List Nat)(k:D)(es:List (D×ah)):Option (Option ah):=
 match e3 ai ks k es 0 with
 |some none=>some none
 |some (some j)=>match es[j]? with
  |some e=>some (some e.2)
  |none=>none
 |none=>none
def q6(ai:Bool)(ks:List Nat)(k:D)(x:ah)(es:List (D×ah)):Option (List (D×ah)):=
 match e3 ai ks k es 0 with
 |some j=>some (np es k x j)
 |none=>none
def CJ(ai:Bool)(ks:List Nat)(k:D)(kl vl:List D):Option (Option D):=
 match e3 ai ks k ((kl.zip vl).map λe=>(e.1,.d e.2)) 0 with
 |some none=>some none
 |some (some j)=>match vl[j]? with
  |some v=>some (some v)
  |none=>none
 |none=>none
def bm.bU:bm where
 io op k a b:=match op with
  |.add=>k.wrap (a+b)
  |.sub=>k.wrap (a-b)
  |.mul=>k.wrap (a*b)
  |.quo=>k.wrap (a.tdiv b)
  |.rem=>a.tmod b
  |.and=>k.wrap (BitVec.ofInt k.bits a&&& BitVec.ofInt k.bits b).toNat
  |.or=>k.wrap (BitVec.ofInt k.bits a|||BitVec.ofInt k.bits b).toNat
  |.xor=>k.wrap (BitVec.ofInt k.bits a^^^BitVec.ofInt k.bits b).toNat
  |.andNot=>k.wrap (BitVec.ofInt k.bits a&&& ~~~ BitVec.ofInt k.bits b).toNat
  |.shl=>k.wrap (a*2^(min b.toNat k.bits))
  |.shr=>a.fdiv (2^(min b.toNat k.bits))
  |_=>0
 aD op a b:=match op with
  |.eql=>decide (a=b)
  |.neq=>!decide (a=b)
  |.lss=>decide (a<b)
  |.leq=>decide (a<=b)
  |.gtr=>decide (b<a)
  |_=>decide (b<=a)
 wr:=IntKind.wrap
 len:=List.length
 get l n:=l.getD n.toNat .dP
 app l m:=l++m
 sub l a b:=(l.drop a.toNat).take (b.toNat-a.toNat)
 gap a b c n m k:=Nat.beq a b&&Nat.beq c b&&Nat.ble (n+m) k
 FR a b c i n k t:=Nat.beq a b&&Nat.beq c b&&decide (i=n)&&Nat.ble (n+1) k&&t
 er a b n k:=Nat.beq a b&&decide (0<=n)&&decide (n<k)
 FT n k:=decide (0<=n)&&decide (n<k)
 oY l h n:=decide (0<=l)&&decide (l<=h)&&decide (h<=n)
 ev:=List.length
 CD s n:=s.getD n.toNat 0
 cQ a b:=a++b
 iK s a b:=(s.drop a.toNat).take (b.toNat-a.toNat)
 bq op a b:=match op with
  |.eql=>decide (a=b)
  |.neq=>!decide (a=b)
  |.lss=>bytesLess a b
  |.leq=>bytesLess a b||decide (a=b)
  |.gtr=>!(bytesLess a b||decide (a=b))
  |_=>!bytesLess a b
 fJ a b:=decide (a.length+b.length<=HB)
 h' s:=s.map gk
 og:=cA
 look:=CJ
 l9 o n z:=o+n.toNat*z
 hL o n cs t:=Nat.ble (o+n) cs.length&&t
 mR t o n cs u:=t&&Nat.ble (o+n) cs.length&&u
 zT o cs:=Nat.blt o cs.length
 zU t o n z cs:=t&&Nat.ble (o+n*z) cs.length
 vG n b:=decide (0<=n)&&decide (n<=b)
 pW t l h m c:=t&&decide (0<=l)&&decide (l<=h)&&decide (h<=m)&&decide (m<=c)
 jS cs o:=snap (cs.getD o .undef)
 CF cs o:=cs.getD o .undef
 oZ cs o n:=cT (.agg ((cs.drop o).take n))
 lC cs o l:=some (putCells cs o l)
 CG cs o:=some (cs.set o .undef)
 zV cs o n z:=some (putCells cs o (List.replicate n z).flatten)
 xK n z:=some (List.replicate n z).flatten
 ns a b:=a.toNat-b.toNat
 zW a b:=some (a++b)
 lD a b:=a+b
 zX a b n m k:=Nat.beq a b&&Nat.ble (n+m) k
 xL cs:=some (jB cs)
 CH off len cap sz bs:=cond (Nat.ble len cap&&Nat.blt 0 sz&&Nat.ble (off+len*sz) bs.length) (match jz ((bs.drop off).take (len*sz))with
  |some l=>cond (l.all jA) (some (.list sz (chunks sz len l))) none
  |none=>none) none
 KK t n l:=t&&decide (0<=n)&&decide (n<=l.length)&&!l.isEmpty
 CI sz l n:=iz sz (l.drop n.toNat)
 xM:=b9.refs
 xN:=b9.ren
 xO:=b9.fA
 xP:=sy
 xQ:=q6
theorem CK(a b:Nat):Nat.beq a b=decide (a=b):=by
 grind[Nat.eq_of_beq_eq_true,Nat.ne_of_beq_eq_false]
theorem zY(n m:Nat):Nat.ble n m=decide (n<=m):=by
 grind[Nat.le_of_ble_eq_true,Nat.ble_eq_true_of_le]
theorem aJ{ad:bm}(h:ad=bm.bU):
  (∀k a b,ad.io .add k a b=k.wrap (a+b))/\(∀k a b,ad.io .sub k a b=k.wrap (a-b))/\(∀k a b,ad.io .mul k a b=k.wrap (a*b))/\(∀k a b,ad.io .quo k a b=k.wrap (a.tdiv b))/\(∀k a b,ad.io .rem k a b=a.tmod b)/\
  (∀a b,ad.aD .eql a b=decide (a=b))/\(∀a b,ad.aD .neq a b=!decide (a=b))/\(∀a b,ad.aD .lss a b=decide (a<b))/\(∀a b,ad.aD .leq a b=decide (a<=b))/\(∀a b,ad.aD .gtr a b=decide (b<a))/\(∀a b,ad.aD .geq a b=decide (b<=a))/\
  (∀k n,ad.wr k n=k.wrap n)/\(∀l,ad.len l=l.length)/\(∀l n,ad.get l n=l.getD n.toNat .dP)/\(∀l m,ad.app l m=l++m)/\(∀l a b,ad.sub l a b=(l.drop a.toNat).take (b.toNat-a.toNat))/\
  (∀a b c n m k,ad.gap a b c n m k=(decide (a=b)&&decide (c=b)&&decide (n+m<=k)))/\(∀a b c i n k t,ad.FR a b c i n k t=(decide (a=b)&&decide (c=b)&&decide (i=n)&&decide (n+1<=k)&&t))/\(∀a b n k,ad.er a b n k=(decide (a=b)&&decide (0<=n)&&decide (n<k)))/\(∀n k,ad.FT n k=(decide (0<=n)&&decide (n<k)))/\(∀a b n,ad.oY a b n=(decide (0<=a)&&decide (a<=b)&&decide (b<=n)))/\
  (∀s,ad.ev s=s.length)/\(∀s n,ad.CD s n=s.getD n.toNat 0)/\(∀a b,ad.cQ a b=a++b)/\(∀s a b,ad.iK s a b=(s.drop a.toNat).take (b.toNat-a.toNat))/\
  (∀a b,ad.bq .eql a b=decide (a=b))/\(∀a b,ad.bq .neq a b=!decide (a=b))/\(∀a b,ad.fJ a b=decide (a.length+b.length<=4611686018427387904))/\(∀s,ad.h' s=s.map gk):=by
 subst h;refine⟨λ_ _ _=>rfl,λ_ _ _=>rfl,λ_ _ _=>rfl,λ_ _ _=>rfl,λ_ _ _=>rfl,λ_ _=>rfl,λ_ _=>rfl,λ_ _=>rfl,λ_ _=>rfl,λ_ _=>rfl,λ_ _=>rfl,λ_ _=>rfl,λ_=>rfl,λ_ _=>rfl,λ_ _=>rfl,λ_ _ _=>rfl,λa b c n m k=> ?_,λa b c i n k t=> ?_,λa b n k=> ?_,λ_ _=>rfl,λ_ _ _=>rfl,λ_=>rfl,λ_ _=>rfl,λ_ _=>rfl,λ_ _ _=>rfl,λ_ _=>rfl,λ_ _=>rfl,λ_ _=>rfl,λ_=>rfl⟩
 .rw[<-CK,<-CK,<-zY];rfl
 .rw[<-CK,<-CK,<-zY];rfl
 .rw[<-CK];rfl
theorem ale(n m:Nat):Nat.blt n m=decide (n<m):=zY _ _
theorem uh{ad:bm}(h:ad=bm.bU):
  (∀o n z,ad.l9 o n z=o+n.toNat*z)/\(∀o n cs t,ad.hL o n cs t=(decide (o+n<=cs.length)&&t))/\(∀t o n cs u,ad.mR t o n cs u=(t&&decide (o+n<=cs.length)&&u))/\(∀o cs,ad.zT o cs=decide (o<cs.length))/\
  (∀t o n z cs,ad.zU t o n z cs=(t&&decide (o+n*z<=cs.length)))/\(∀n b,ad.vG n b=(decide (0<=n)&&decide (n<=b)))/\(∀t l h m c,ad.pW t l h m c=(t&&decide (0<=l)&&decide (l<=h)&&decide (h<=m)&&decide (m<=(c:Int)))):=by
 subst h;refine⟨λ_ _ _=>rfl,λo n cs t=> ?_,λt o n cs u=> ?_,λo cs=> ?_,λt o n z cs=> ?_,λ_ _=>rfl,λ_ _ _ _ _=>rfl⟩
 .rw[<-zY];rfl
 .rw[<-zY];rfl
 .rw[<-ale];rfl
 .rw[<-zY];rfl
def Flat(cs:List ah):Prop:=∀v∈cs,(∃x,v=.d x)\/∃z l,v=.own z l
def o0(es:List (D×ah)):Prop:=∀e∈es,∃x,e.2=.d x
theorem Flat.refs{ad:bm}(h:ad=bm.bU){cs:List ah}(az:Flat cs):ad.xM (.box cs)=[]:=by
 subst h;show cs.flatMap (aH.refs depth)=[];rw[aCY];intro v hv;rcases az v hv with⟨x,rfl⟩|⟨z,l,rfl⟩<;>rfl
theorem Flat.ren{ad:bm}(h:ad=bm.bU){cs:List ah}(az:Flat cs)(f:Nat->Nat):ad.xN f (.box cs)=.box cs:=by
 subst h;show b9.box (cs.map (aH.ren f depth))=_;congr 1;refine(aCc λv hv=> ?_).trans (List.map_id cs);rcases az v hv with⟨x,rfl⟩|⟨z,l,rfl⟩<;>rfl
theorem Flat.ok{ad:bm}(h:ad=bm.bU){cs:List ah}(az:Flat cs)(n:Nat):ad.xO n (.box cs)=true:=by
 subst h;refine aAx.2 λv hv=> ?_;rcases az v hv with⟨x,rfl⟩|⟨z,l,rfl⟩<;>rfl
theorem o0.refs{ad:bm}(h:ad=bm.bU){es:List (D×ah)}(az:o0 es):ad.xM (.map es)=[]:=by
 subst h;show es.flatMap (λe=>aH.refs depth e.2)=[];rw[aCY];intro v hv;obtain⟨x,ak⟩:=az v hv;rw[ak];rfl
theorem o0.ren{ad:bm}(h:ad=bm.bU){es:List (D×ah)}(az:o0 es)(f:Nat->Nat):ad.xN f (.map es)=.map es:=by
 subst h;show b9.map (es.map λe=>(e.1,aH.ren f depth e.2))=_;congr 1;refine(aCc λv hv=> ?_).trans (List.map_id es);obtain⟨x,ak⟩:=az v hv;rw[ak];show(v.1,ah.d x)=v;grind
theorem o0.ok{ad:bm}(h:ad=bm.bU){es:List (D×ah)}(az:o0 es)(n:Nat):ad.xO n (.map es)=true:=by
 subst h;refine aAx.2 λv hv=> ?_;obtain⟨x,ak⟩:=az v hv;grind[aH.fA]
section
variable (ad:bm)(ar:List Nat){R:Type}(A:mB R)(gl:Nat->List D)
def S5(op:BinOp)(k:IntKind)(a b:Int):Option (Bool×D):=
 match op with
 |.add=>some (true,.int k (ad.io .add k a b))
 |.sub=>some (true,.int k (ad.io .sub k a b))
 |.mul=>some (true,.int k (ad.io .mul k a b))
 |.quo=>some (decide (b≠0),.int k (ad.io .quo k a b))
 |.rem=>some (decide (b≠0),.int k (ad.io .rem k a b))
 |.and=>some (true,.int k (ad.io .and k a b))
 |.or=>some (true,.int k (ad.io .or k a b))
 |.xor=>some (true,.int k (ad.io .xor k a b))
 |.andNot=>some (true,.int k (ad.io .andNot k a b))
 |.eql=>some (true,.bool (ad.aD .eql a b))
 |.neq=>some (true,.bool (ad.aD .neq a b))
 |.lss=>some (true,.bool (ad.aD .lss a b))
 |.leq=>some (true,.bool (ad.aD .leq a b))
 |.gtr=>some (true,.bool (ad.aD .gtr a b))
 |.geq=>some (true,.bool (ad.aD .geq a b))
 |_=>none
def S6(op:BinOp)(k:IntKind)(a b:Int):Option D:=
 match op with
 |.shl=>some (.int k (ad.io .shl k a b))
 |.shr=>some (.int k (ad.io .shr k a b))
 |_=>none
def S7(op:BinOp)(a b:List UInt8):Option (Bool×D):=
 match op with
 |.add=>some (ad.fJ a b,.str (ad.cQ a b))
 |.eql=>some (true,.bool (ad.bq .eql a b))
 |.neq=>some (true,.bool (ad.bq .neq a b))
 |.lss=>some (true,.bool (ad.bq .lss a b))
 |.leq=>some (true,.bool (ad.bq .leq a b))
 |.gtr=>some (true,.bool (ad.bq .gtr a b))
 |.geq=>some (true,.bool (ad.bq .geq a b))
 |_=>none
def alf(o:Option Bool)(K:Bool->R):R:=match o with
 |some r=>K r
 |none=>A.fail
def KM(i:Nat)(o:b9):List Nat:=ke (dk i ar) (λ_=>ad.xM o) (λ_=>o.refs)
def KN(f:Nat->Nat)(i:Nat)(o:b9):b9:=ke (dk i ar) (λ_=>ad.xN f o) (λ_=>o.ren f)
def S8(n i:Nat)(o:b9):Bool:=ke (dk i ar) (λ_=>ad.xO n o) (λ_=>o.fA n)
def zZ(s:aU):Nat->List Nat->List Nat->List Nat
 |0,_,acc=>acc
 |_+1,[],acc=>acc
 |n+1,i::todo,acc=>ke (dk i acc) (λ_=>zZ s n todo acc) (λ_=>zZ s n (todo++KM ad ar i (s.getD i .dead)) (acc++[i]))
def KO(s:aU)(ids:List Nat)(args:List ah):Bool:=
 (args.flatMap (refs depth)).all (λi=>dk i ids)&&ids.all λi=>(KM ad ar i (s.getD i .dead)).all λj=>dk j ids
def FU(f:Nat->Nat):Nat->List b9->List b9
 |_,[]=>[]
 |p,o::l=>KN ad ar f (f p) o::FU f (p+1) l
def CL(n:Nat):Nat->List b9->Bool
 |_,[]=>true
 |p,o::l=>S8 ad ar n p o&&CL n (p+1) l
def FV(f:Nat)(args:List ah)(s:aU)(K:ah->aU->R):R:=match ar with
 |[]=>kP A f args s K
 |_::_=>
  S3 (zZ ad ar s (s.length+s.length+8) (args.flatMap (refs depth)) []) λids=>
  let nT:=λi=>lp i ids;let lq:=back ids s.length;A.guard (HA s.length ids&&nodupB ids&&KO ad ar s ids args&&args.all (ea depth)) <|
  A.call f (args.map (ren nT depth)) (ids.map λi=>KN ad ar nT i (s.getD i .dead)) λr s'=>
   A.guard (Nat.ble ids.length s'.length) <|
   K (ren lq depth r) (merge s ids (FU ad ar lq 0 s'))
def z1(n:Nat)(ts bs:List Nat)(st:ag)(K:ag->R):R:=match ar with
 |[]=>forget A n ts bs st K
 |_::_=>A.guard (keeps st.aR bs ts) (match ts.all (λt=>fA n depth (st.aR t))&&bs.all (okB n st.bH)with
  |true=>match CL ad ar n 0 (st.s.take n)with
   |true=>K ⟨s9 st.aR ts,ta st.bH bs,st.s.take n⟩
   |false=>K ⟨s9 st.aR ts,ta st.bH bs,st.s⟩
  |false=>K ⟨s9 st.aR ts,ta st.bH bs,st.s⟩)
def KP(n:Nat)(r:ah)(s:aU)(K:ah->aU->R):R:=match ar with
 |[]=>K r (gc n r s)
 |_::_=>match fA n depth r with
  |true=>match CL ad ar n 0 (s.take n)with
   |true=>K r (s.take n)
   |false=>K r s
  |false=>K r s
def S9(s:aU)(i j:Nat):Option aU:=match s.getD i .dead with
 |.box cs=>match cs.getD j .undef with
  |.raw sz n us=>match ad.xL us with
   |some vs=>some (s.set i (.box (cs.set j (.aN s.length 0 n n sz)))++[.box vs])
   |none=>none
  |_=>some s
 |_=>none
def FW(i:Nat):aU->Nat->Nat->Option aU
 |s,_,0=>some s
 |s,j,n+1=>match S9 ad s i j with
  |some s'=>FW i s' (j+1) n
  |none=>none
def KQ(d s:Nat)(x:O)(sz b1 ej n:Nat)(cs:List fc)(st:ag)(K:ag->R):R:=match qp st (aL gl st x) sz with
 |some (us,k)=>match uS us with
  |some gC=>A.guard (ad.zX ej sz n k b1) (vH A (ad.zW cs gC) λdZ=>K ((st.set s .undef).set d (.raw sz (ad.lD n k) dZ)))
  |none=>A.fail
 |none=>A.fail
def o1(i:I)(st:ag)(K:ag->R):R:=
 match i with
 |.oz ai ks m ji x=>match aL gl st m,hq (aL gl st ji)with
  |.map i,some k=>ke (dk i ar) (λ_=>match st.s.getD i .dead with
   |.map es=>match ad.xQ ai ks k (cT (aL gl st x)) es with
    |some l'=>A.guard (ea depth (cT (aL gl st x))&&fe ai k&&(cA ks k.cells k.cells).isSome) (K {st with s:=st.s.set i (.map l')})
    |none=>A.fail
   |_=>A.fail) (λ_=>step A gl (.oz ai ks m ji x) st K)
  |_,_=>A.fail
 |.aI d a n ai=>match aL gl st a with
  |.ptr i off=>ke (dk i ar) (λ_=>match st.s.getD i .dead with
   |.box cs=>A.guard (ad.hL off n cs (ai||Nat.beq n 1)) (KL (cond ai (ad.oZ cs off n) (ad.jS cs off)) λv=>K (st.set d v))
   |_=>A.fail) (λ_=>match st.s.getD i .dead with
   |.box cs=>A.guard (Nat.ble (off+n) cs.length&&(ai||Nat.beq n 1)) (K (st.set d (valOf cs off n ai)))
   |_=>A.fail)
  |.d (.e1 cs off)=>A.guard (Nat.ble (off+n) cs.length) (K (st.set d (.d (cond ai (.agg ((cs.drop off).take n)) (cs.getD off .dP)))))
  |_=>A.fail
 |.hs a x n=>match aL gl st a with
  |.ptr i off=>ke (dk i ar) (λ_=>match st.s.getD i .dead with
   |.box cs=>
    let vs:=cellsOf (aL gl st x);A.guard (ad.mR (Nat.beq vs.length n) off n cs (vs.all kn)) (vH A (ad.lC cs off vs) λdZ=>K {kill st x with s:=st.s.set i (.box dZ)})
   |_=>A.fail) (λ_=>match st.s.getD i .dead with
   |.box cs=>
    let vs:=cellsOf (aL gl st x);A.guard (Nat.beq vs.length n&&Nat.ble (off+n) cs.length&&vs.all kn) (K {kill st x with s:=st.s.set i (.box (putCells cs off vs))})
   |_=>A.fail)
  |_=>A.fail
 |.aE d a=>match aL gl st a with
  |.ptr i off=>ke (dk i ar) (λ_=>match st.s.getD i .dead with
   |.box cs=>A.guard (ad.zT off cs) (vH A (ad.CG cs off) λdZ=>KL (ad.CF cs off) λv=>K ({st with s:=st.s.set i (.box dZ)}.set d v))
   |_=>A.fail) (λ_=>match st.s.getD i .dead with
   |.box cs=>A.guard (Nat.blt off cs.length) (K ({st with s:=st.s.set i (.box (cs.set off .undef))}.set d (cs.getD off .undef)))
   |_=>A.fail)
  |_=>A.fail
 |.oA d x z=>match aL gl st x with
  |.aN i off len _ sz=>ke (dk i ar) (λ_=>match st.s.getD i .dead with
   |.box cs=>A.guard (ad.zU (Nat.beq z.length sz) off len sz cs) (vH A (ad.zV cs off len z) λdZ=>K ({st with s:=st.s.set i (.box dZ)}.dI d (.tuple [])))
   |_=>A.fail) (λ_=>match st.s.getD i .dead with
   |.box cs=>A.guard (Nat.beq z.length sz&&Nat.ble (off+len*sz) cs.length) (K ({st with s:=st.s.set i (.box (putCells cs off (List.replicate len z).flatten))}.dI d (.tuple [])))
   |_=>A.fail)
  |v=>match hr v with
   |some (_,[])=>K (st.dI d (.tuple []))
   |_=>A.fail
 |.mk d sz z n b1=>match aL gl st n with
  |.d (.int _ n)=>ke (dk st.s.length ar) (λ_=>A.guard (ad.vG n b1) (vH A (ad.xK n.toNat z) λdZ=>K ({st with s:=st.s++[b9.box dZ]}.set d (.aN st.s.length 0 n.toNat n.toNat sz)))) (λ_=>A.guard (decide (0<=n)&&decide (n<=b1)) (K ({st with s:=st.s++[b9.box (List.replicate n.toNat z).flatten]}.set d (.aN st.s.length 0 n.toNat n.toNat sz))))
  |_=>A.fail
 |.aN d hY x lo hi mx=>match aL gl st x with
  |.aN j off len cap sz=>ke (dk j ar) (λ_=>match bound gl st 0 lo,bound gl st len hi,bound gl st cap mx with
   |some l,some h,some m=>A.guard (ad.pW (Nat.beq sz hY) l h m cap) (match ad.aD .eql l m with
    |true=>K (st.set d (.d (.list sz [])))
    |false=>K (st.set d (.aN j (ad.l9 off l sz) (ad.ns h l) (ad.ns m l) sz)))
   |_,_,_=>A.fail) (λ_=>step A gl (.aN d hY x lo hi mx) st K)
  |v=>match hr v with
   |some (sz,s)=>match bound gl st 0 lo,bound gl st (ad.len s) hi,bound gl st (ad.len s) mx with
    |some l,some h,some m=>A.guard (ad.pW (Nat.beq sz hY) l h m (ad.len s)) (K (st.set d (.d (.list sz (ad.sub s l h)))))
    |_,_,_=>A.fail
   |none=>A.fail
 |.gK d x off=>match aL gl st x with
  |.ptr i o=>ke (dk i ar) (λ_=>K (st.set d (.ptr i (ad.lD o off)))) (λ_=>K (st.set d (.ptr i (o+off))))
  |_=>step A gl (.gK d x off) st K
 |.pg d x=>match x with
  |.t s=>match st.aR s with
   |.raw sz n cs=>vH A (ad.xL cs) λus=>K (({st with s:=st.s++[b9.box us]}.set s (.aN st.s.length 0 n n sz)).set d (.aN st.s.length 0 n n sz))
   |.ptr i off=>match st.s.getD i .dead with
    |.box cs=>match FW ad i st.s 0 cs.length with
     |some s'=>K ({st with s:=s'}.set d (.ptr i off))
     |none=>A.fail
    |_=>A.fail
   |v=>K (st.set d (snap v))
  |_=>A.fail
 |.dH d f args=>match aL gl st f with
  |.d (.fn f)=>FV ad ar A f (args.map (jK gl st)) st.s λr s'=>K ({st with s:=s'}.dI d r)
  |.func f a c=>FV ad ar A f (a++args.map (jK gl st)++c) st.s λr s'=>K ({st with s:=s'}.dI d r)
  |_=>A.fail
 |.nn d own x=>match aL gl st x with
  |.aN k off len cap sz=>ke (dk k ar) (λ_=>match st.s.getD k .dead with
   |.box bs=>match ad.CH off len cap sz bs with
    |some y=>K ({st with s:=st.s.set k .dead}.set d (match own with
     |true=>(match y with|.list sz l=>iz sz l|y=>.d y)
     |false=>.d y))
    |none=>A.fail
   |_=>A.fail) (λ_=>step A gl (.nn d own x) st K)
  |_=>step A gl (.nn d own x) st K
 |.so d s hY x=>match st.aR s,aL gl st x with
  |.own sz l,.d (.int _ n)=>A.guard (ad.KK (Nat.beq sz hY) n l) (K ((st.set s .undef).set d (ad.CI sz l n)))
  |_,_=>A.fail
 |i=>step A gl i st K
def i6(i:I)(st:ag)(K:ag->R):R:=
 match i with
 |.dU d c a b=>match aL gl st c with
  |.d (.bool t)=>match t with
   |true=>K (st.set d (snap (aL gl st a)))
   |false=>K (st.set d (snap (aL gl st b)))
  |_=>A.fail
 |.bi d op x y=>match aL gl st x,aL gl st y with
  |.d (.int k a),.d (.int k' b)=>match S6 ad op k a b with
   |some r=>A.guard (ad.aD .geq b 0) (K (st.set d (.d r)))
   |none=>match S5 ad op k a b with
    |some (ok,r)=>A.guard (decide (k=k')) (A.guard ok (K (st.set d (.d r))))
    |none=>A.fail
  |.d (.str a),.d (.str b)=>match S7 ad op a b with
   |some (ok,r)=>A.guard ok (K (st.set d (.d r)))
   |none=>A.fail
  |_,_=>A.fail
 |.un d op x=>match op,aL gl st x with
  |.not,.d (.bool b)=>(match b with
   |true=>K (st.set d (.d (.bool false)))
   |false=>K (st.set d (.d (.bool true))))
  |.neg,.d (.int k n)=>K (st.set d (.d (.int k (ad.io .sub k 0 n))))
  |.xor,.d (.int k n)=>K (st.set d (.d (.int k (ad.io .xor k (if k.signed then -1 else k.max) n))))
  |_,_=>A.fail
 |.ci d k x=>match aL gl st x with
  |.d (.int _ n)=>K (st.set d (.d (.int k (ad.wr k n))))
  |_=>A.fail
 |.h' d x=>match aL gl st x with
  |.d (.str s)=>K (st.set d (.d (.list 1 (ad.h' s))))
  |_=>A.fail
 |.lQ d x i sz=>match aL gl st i with
  |.d (.int _ n)=>match aL gl st x with
   |.aN j off len _ ib=>ke (dk j ar) (λ_=>A.guard (ad.er ib sz n len) (K (st.set d (.ptr j (ad.l9 off n sz))))) (λ_=>A.guard (Nat.beq ib sz&&decide (0<=n)&&decide (n<len)) (K (st.set d (.ptr j (off+n.toNat*sz)))))
   |v=>match hr v with
    |some (ib,l)=>A.guard (ad.er ib sz n (ad.len l)) (match ad.get l n with
     |.agg cs=>K (st.set d (.d (.e1 cs 0)))
     |x=>K (st.set d (.d (.e1 [x] 0))))
    |none=>A.fail
  |_=>A.fail
 |.mz d x i=>match aL gl st x,aL gl st i with
  |.d (.str s),.d (.int _ n)=>A.guard (ad.FT n (ad.ev s)) (K (st.set d (.d (gk (ad.CD s n)))))
  |_,_=>A.fail
 |.ss d x lo hi=>match aL gl st x with
  |.d (.str s)=>match bound gl st 0 lo,bound gl st (ad.ev s) hi with
   |some l,some h=>A.guard (ad.oY l h (ad.ev s)) (K (st.set d (.d (.str (ad.iK s l h)))))
   |_,_=>A.fail
  |_=>A.fail
 |.ap d s x sz b1=>match st.aR s with
  |.own ej l=>match qq st (aL gl st x)with
   |some (dt,l2)=>A.guard (ad.gap ej sz dt (ad.len l) (ad.len l2) b1) (K ((st.set s .undef).set d (.own sz (ad.app l l2))))
   |none=>A.fail
  |.gJ ej=>match qq st (aL gl st x)with
   |some (dt,l2)=>A.guard (ad.gap ej sz dt (ad.len l2) 0 b1) (K ((st.set s .undef).set d (iz sz l2)))
   |none=>A.fail
  |.raw ej n cs=>KQ ad A gl d s x sz b1 ej n cs st K
  |_=>hG A gl false false d s x sz b1 st K
 |.nj d s x sz b1=>match st.aR s with
  |.raw ej n cs=>KQ ad A gl d s x sz b1 ej n cs st K
  |_=>hG A gl true false d s x sz b1 st K
 |.nk d s x sz b1=>match st.aR s with
  |.raw ej n cs=>KQ ad A gl d s x sz b1 ej n cs st K
  |_=>hG A gl true true d s x sz b1 st K
 |.kO d s z i x sz b1=>match st.aR s,s5 (st.aR z),st.aR i,hq (aL gl st x)with
  |.own ej l,some (dt,[_]),.d (.int _ n),some kQ=>
   A.guard (ad.FR ej sz dt n (ad.len l) b1 (Nat.beq kQ.cells.length sz&&kQ.cells.all jA)) (K ((st.set s .undef).set d (.own sz (ad.app l [kQ]))))
  |_,_,_,_=>A.fail
 |.ni d str x=>match aL gl st x with
  |.aN _ _ len _ _=>A.guard (!str) (K (st.set d (.d (.int .i64 len))))
  |.d (.str s)=>A.guard str (K (st.set d (.d (.int .i64 (ad.ev s)))))
  |v=>match hr v with
   |some (_,l)=>A.guard (!str) (K (st.set d (.d (.int .i64 (ad.len l)))))
   |none=>A.fail
 |.qm d lt x y=>match aL gl st x,aL gl st y with
  |.d (.int k a),.d (.int k' b)=>A.guard (decide (k=k')) (K (st.set d (.d (.int k (match (match lt with|true=>ad.aD .gtr a b|false=>ad.aD .lss a b)with|true=>b|false=>a)))))
  |_,_=>A.fail
 |.eq d neg ai ks x y=>match hq (aL gl st x),hq (aL gl st y)with
  |some a,some b=>A.guard (fe ai a&&fe ai b) <| alf A (ad.og ks a.cells b.cells) λr=>match r with
   |true=>K (st.set d (.d (.bool (!neg))))
   |false=>K (st.set d (.d (.bool neg)))
  |_,_=>A.fail
 |.aJ d ai ks m k z ok=>match aL gl st m with
  |.d (.ln kl vl)=>match hq (aL gl st k)with
   |none=>A.fail
   |some k=>A.guard (fe ai k&&(cA ks k.cells k.cells).isSome) <| match ad.look ai ks k kl vl with
    |some none=>K (st.set d (cond ok (.tuple [cT z,.d (.bool false)]) (cT z)))
    |some (some v)=>K (st.set d (cond ok (.tuple [.d v,.d (.bool true)]) (.d v)))
    |none=>A.fail
  |.map i=>ke (dk i ar) (λ_=>match hq (aL gl st k)with
   |none=>A.fail
   |some k=>A.guard (fe ai k&&(cA ks k.cells k.cells).isSome) <| match st.s.getD i .dead with
    |.map es=>match ad.xP ai ks k es with
     |some none=>K (st.set d (cond ok (.tuple [cT z,.d (.bool false)]) (cT z)))
     |some (some v)=>K (st.set d (cond ok (.tuple [v,.d (.bool true)]) v))
     |none=>A.fail
    |_=>A.fail) (λ_=>step A gl (.aJ d ai ks m k z ok) st K)
  |_=>step A gl (.aJ d ai ks m k z ok) st K
 |i=>o1 ad ar A gl i st K
def sA:List cf->ag->(ag->R)->R
 |[],st,K=>K st
 |⟨none,i⟩::l,st,K=>i6 ad ar A gl i st λst=>sA l st K
 |⟨some (s,want),i⟩::l,st,K=>match st.aR s with
  |.d (.bool b)=>match want with
   |true=>(match b with
    |true=>i6 ad ar A gl i st λst=>sA l st K
    |false=>sA l (st.dI i.dst (.tuple [])) K)
   |false=>(match b with
    |true=>sA l (st.dI i.dst (.tuple [])) K
    |false=>i6 ad ar A gl i st λst=>sA l st K)
  |.tuple []=>sA l (st.dI i.dst (.tuple [])) K
  |_=>A.fail
def KR(g:cf)(st:ag)(K:ag->R):R:=match g.g with
 |none=>i6 ad ar A gl g.i st K
 |some (s,want)=>match st.aR s with
  |.d (.bool b)=>match want with
   |true=>(match b with
    |true=>i6 ad ar A gl g.i st K
    |false=>K (st.dI g.i.dst (.tuple [])))
   |false=>(match b with
    |true=>K (st.dI g.i.dst (.tuple []))
    |false=>i6 ad ar A gl g.i st K)
  |.tuple []=>K (st.dI g.i.dst (.tuple []))
  |_=>A.fail
def KS(id:Nat)(i:I)(st:ag):Option (b9×Nat×(Nat->ah)):=
 match i with
 |.mk d sz z n b1=>ke (dk id ar) (λ_=>match aL gl st n with
  |.d (.int _ n)=>cond (ad.vG n b1) (match ad.xK n.toNat z with
   |some dZ=>some (.box dZ,d,λi=>.aN i 0 n.toNat n.toNat sz)
   |none=>none) none
  |_=>none) (λ_=>jZ gl (.mk d sz z n b1) st)
 |i=>jZ gl i st
def FX(id:Nat)(g:cf)(st:ag)(K:ag->R):R:=match g.g,KS ad ar gl id g.i st with
  |none,some (o,d,v)=>A.guard (Nat.blt id st.s.length) (K ({st with s:=st.s.set id o}.set d (v id)))
  |_,_=>A.fail
def KT(id:Nat)(g:cf)(st:ag)(K:ag->R):R:=ke (hZ g.i) (λ_=>match g.g,g.i with
  |none,.mk d sz z n b1=>ke (dk id ar) (λ_=>match aL gl st n with
   |.d (.int _ n)=>alc A (ad.vG n b1) λ_=>vH A (ad.xK n.toNat z) λdZ=>A.guard (Nat.blt id st.s.length) (K ({st with s:=st.s.set id (.box dZ)}.set d (.aN id 0 n.toNat n.toNat sz)))
   |_=>A.fail) (λ_=>FX ad ar A gl id g st K)
  |_,_=>FX ad ar A gl id g st K) (λ_=>KR ad ar A gl g st K)
def KU(st aT:ag)(args:List ah):jc:=
 {a:=some st.s.length,c:=some (zZ ad ar st.s (st.s.length+st.s.length+8) (args.flatMap (refs depth)) [],st.s,aT.s)}
def FY(id:Nat)(g:cf)(st aT:ag):jc:=match g.g,g.i with
 |none,.dH _ f args=>match aL gl st f with
  |.d (.fn _)=>KU ad ar st aT (args.map (jK gl st))
  |.func _ a c=>KU ad ar st aT (a++args.map (jK gl st)++c)
  |_=>{}
 |_,_=>uT gl id g st aT
def FZ(a b:List (Nat×Nat×Nat)):Bool:=
 a.all λx=>b.all λy=>match Nat.beq x.1 y.1 with
  |false=>true
  |true=>!Nat.beq x.2.2 big&&!Nat.beq y.2.2 big&&(Nat.ble (x.2.1+x.2.2) y.2.1||Nat.ble (y.2.1+y.2.2) x.2.1)
def KV(x:cf)(en:jc)(y:cf)(fk:jc):Bool:=
 qo en.k (y.rd++y.i.hw)&&qo fk.k (x.rd++x.i.hw)&&FZ en.w (fk.r++fk.w)&&FZ fk.w en.r&&pn en fk&&pn fk en&&rH en fk&&rH fk en
def F0:List cf->List (List Nat)->List (cf×jc)->Nat->ag->(ag->R)->R
 |[],_,_,_,st,K=>K st
 |g::l,dy,acc,id,st,K=>
  KT ad ar A gl id g st λaT=>
  A.guard ((dy.headD []).all λi=>match acc[i]? with
   |some (x,en)=>KV x en g (FY ad ar gl id g st aT)
   |none=>false) <|
  F0 l dy.tail (acc++[(g,FY ad ar gl id g st aT)]) (ke (hZ g.i) (λ_=>id+1) (λ_=>id)) aT K
def KW(l:List cf)(dy:List (List Nat))(st:ag)(K:ag->R):R:=F0 ad ar A gl l dy [] st.s.length (st.room (po l)) K
def CM(Y:iR R)(yi:Nat)(i:I)(st:ag)(p:Option aB)(K:ag->Option aB->R):R:=
 match A7 gl st i,i with
 |.fY j,.dH d _ args=>A.guard (Nat.beq j yi) (A6 A gl Y d args st p K)
 |_,i=>i6 ad ar A gl i st λst=>K st p
def sB(Y:iR R)(yi:Nat):List cf->ag->Option aB->(ag->Option aB->R)->R
 |[],st,p,K=>K st p
 |⟨none,i⟩::l,st,p,K=>CM ad ar A gl Y yi i st p λst p=>sB Y yi l st p K
 |⟨some (s,want),i⟩::l,st,p,K=>match st.aR s with
  |.d (.bool b)=>match want with
   |true=>(match b with
    |true=>CM ad ar A gl Y yi i st p λst p=>sB Y yi l st p K
    |false=>sB Y yi l (st.dI i.dst (.tuple [])) p K)
   |false=>(match b with
    |true=>sB Y yi l (st.dI i.dst (.tuple [])) p K
    |false=>CM ad ar A gl Y yi i st p λst p=>sB Y yi l st p K)
  |.tuple []=>sB Y yi l (st.dI i.dst (.tuple [])) p K
  |_=>A.fail
def o2(Y:iR R)(yi:Nat):eG->ag->Option aB->(aB->ag->Option aB->R)->R
 |.skip,st,p,K=>K .normal st p
 |.ops l,st,p,K=>sB ad ar A gl Y yi l st p (K .normal)
 |.any l dy,st,p,K=>KW ad ar A gl l dy st λst=>K .normal st p
 |.bad,_,_,_=>A.fail
 |.seq a b,st,p,K=>o2 Y yi a st p λx st p=>match x with
  |.normal=>o2 Y yi b st p K
  |x=>K x st p
 |.cond c a b,st,p,K=>match aL gl st c with
  |.d (.bool t)=>match t with
   |true=>o2 Y yi a st p K
   |false=>o2 Y yi b st p K
  |_=>A.fail
 |.block i b,st,p,K=>o2 Y yi b st p λx st p=>match x with
  |.exit j=>cond (Nat.beq j i) (K .normal st p) (K (.exit j) st p)
  |x=>K x st p
 |.loop ts bs b,st,p,K=>A.guard p.isNone <| z1 ad ar A st.s.length ts bs st λst0=>
  A.fix (λcI rec=>o2 Y yi b cI none λx st p=>match x with
   |.normal=>A.guard p.isNone (z1 ad ar A cI.s.length ts bs st rec)
   |x=>K x st p) st0
 |.ia _ _ _ _,_,_,_=>A.fail
 |.exit i,st,p,K=>K (.exit i) st p
 |.ret,st,p,K=>K .ret st p
def F1(mE ia:ag->(aB->ag->R)->R)(ps:List Nat)(g:Nat)(gI:List ah)(st:ag)(K:aB->ag->R):R:=
 A.iter g λcM=>A.guard cM.res.isEmpty <|
  o2 ad ar A gl (rJ A mE ia ps st.lr) st.s.length cM.code {aR:=rI (.fY st.s.length::gI) 0,bH:=λ_=>none,s:=st.s++[.dead]} none λe A8 p=>match e with
   |.exit _=>A.fail
   |_=>K (p.getD .normal) {st.lr with s:=A8.s}
def hM:eG->ag->(aB->ag->R)->R
 |.skip,st,K=>K .normal st
 |.ops l,st,K=>sA ad ar A gl l st (K .normal)
 |.any l dy,st,K=>KW ad ar A gl l dy st (K .normal)
 |.bad,_,_=>A.fail
 |.seq a b,st,K=>hM a st λx st=>match x with
  |.normal=>hM b st K
  |x=>K x st
 |.cond c a b,st,K=>match aL gl st c with
  |.d (.bool t)=>match t with
   |true=>hM a st K
   |false=>hM b st K
  |_=>A.fail
 |.block i b,st,K=>hM b st λx st=>match x with
  |.exit j=>cond (Nat.beq j i) (K .normal st) (K (.exit j) st)
  |x=>K x st
 |.loop ts bs b,st,K=>z1 ad ar A st.s.length ts bs st λst0=>
  A.fix (λcI rec=>hM b cI λx st=>match x with
   |.normal=>z1 ad ar A cI.s.length ts bs st rec
   |x=>K x st) st0
 |.ia x ps a b,st,K=>match aL gl st x with
  |.func g [] gI=>F1 ad ar A gl (hM a) (hM b) ps g gI st K
  |.d (.fn g)=>F1 ad ar A gl (hM a) (hM b) ps g [] st K
  |_=>A.fail
 |.exit i,st,K=>K (.exit i) st
 |.ret,st,K=>K .ret st
def vI(fn:aX)(args:List ah)(s:aU)(K:ah->aU->R):R:=
 hM ad ar A gl fn.code {aR:=rI args 0,bH:=λ_=>none,s} λx st=>match x with
  |.exit _=>A.fail
  |_=>match qw st fn.res with
   |some r=>A.guard (ea depth r) (KP ad ar s.length r st.s K)
   |none=>A.fail
end
section
variable {ar:List Nat}{R:Type}{A:mB R}{gl:Nat->List D}
theorem av4:S5 bm.bU=A2:=by funext op k a b;cases op<;>rfl
theorem av5:S6 bm.bU=wK:=by funext op k a b;cases op<;>rfl
theorem av6:S7 bm.bU=A3:=by funext op a b;cases op<;>rfl
theorem S'(i:Nat)(o:b9):KM bm.bU ar i o=o.refs:=azv
theorem Ta(f:Nat->Nat)(i:Nat)(o:b9):KN bm.bU ar f i o=o.ren f:=azv
theorem alg(n i:Nat)(o:b9):S8 bm.bU ar n i o=o.fA n:=azv
theorem KX(s:aU):∀(n:Nat) (todo acc:List Nat),zZ bm.bU ar s n todo acc=reach s n todo acc
 |0,_,_=>rfl
 |_+1,[],_=>rfl
 |n+1,i::todo,acc=>by simp[zZ,reach,S',KX s n,S4]
theorem alh(s:aU)(ids:List Nat)(args:List ah):KO bm.bU ar s ids args=closed s ids args:=by grind[KO,closed,S']
theorem Tb(f:Nat->Nat):∀(p:Nat) (l:List b9),FU bm.bU ar f p l=l.map (b9.ren f)
 |_,[]=>rfl
 |p,o::l=>by simp[FU,Ta,Tb f (p+1) l,aAP]
theorem KY(n:Nat):∀(p:Nat) (l:List b9),CL bm.bU ar n p l=l.all (b9.fA n)
 |_,[]=>rfl
 |p,o::l=>by simp[CL,alg,KY n (p+1) l,aB5]
theorem ali(f:Nat)(args:List ah)(s:aU)(K:ah->aU->R):FV bm.bU ar A f args s K=kP A f args s K:=by
 cases ar with
 |nil=>rfl
 |cons a l=>grind[FV,kP,ald,KX,alh,Ta,Tb]
theorem Tc(n:Nat)(ts bs:List Nat)(st:ag)(K:ag->R):z1 bm.bU ar A n ts bs st K=forget A n ts bs st K:=by
 cases ar with
 |nil=>rfl
 |cons a l=>
  simp[z1,forget,DW,KY];grind
theorem alj(n:Nat)(r:ah)(s:aU)(K:ah->aU->R):KP bm.bU ar n r s K=K r (gc n r s):=by
 cases ar with
 |nil=>rfl
 |cons a l=>
  simp[KP,gc,KY];grind
theorem alk(id:Nat)(i:I)(st:ag):KS bm.bU ar gl id i st=jZ gl i st:=by
 cases i<;>first|rfl|(unfold KS;cases dk id ar<;>rfl)
theorem Td(i:Nat):∀(n:Nat) (s:aU) (j:Nat),FW bm.bU i s j n=qs i s j n
 |0,_,_=>rfl
 |n+1,s,j=>by
  have h:S9 bm.bU s i j=wL s i j:=rfl;simp[FW,qs,h];cases wL s i j with
  |none=>rfl
  |some s'=>exact Td i n s' (j+1)
theorem alm(s:aU)(k off len cap sz:Nat):pk s (.aN k off len cap sz)=match s.getD k .dead with
  |.box bs=>(match bm.bU.CH off len cap sz bs with
   |some y=>some (y,k)
   |none=>none)
  |_=>none:=by
 simp[pk,bm.bU];grind
theorem aln(i:I)(st:ag)(K:ag->R):o1 bm.bU ar A gl i st K=step A gl i st K:=by
 cases i;case dH d f args=>
  simp[o1,step,ali];rfl
 case pg d x=>
  simp[o1,step,Td];rfl
 case nn d own x=>
  simp[o1,step];cases aL gl st x<;>try rfl
  grind[oh,alm]
 case aI d a n ai=>
  simp[o1,step,S2];cases aL gl st a<;>try first|rfl|(refine oh _ ?_;rfl)
  grind
 case hs a x n=>
  simp[o1,step];cases aL gl st a<;>first|rfl|(refine oh _ ?_;rfl)
 case aE d a=>
  simp[o1,step,S2];cases aL gl st a<;>first|rfl|(refine oh _ ?_;rfl)
 case oA d x z=>
  simp[o1,step];cases aL gl st x<;>first|rfl|(refine oh _ ?_;rfl)
 case mk d sz z n b1=>
  simp[o1,step];cases aL gl st n<;>try rfl
  rename_i x;cases x<;>first|rfl|(refine oh _ ?_;rfl)
 case aN d hY x lo hi mx=>
  simp[o1];split
  .rename_i e;refine oh _ ?_;have h1:∀(l m:Int) (x y:ag),(match bm.bU.aD .eql l m with|true=>K x|false=>K y)=K (cond (decide (l=m)) x y):=by
    intro l m x y;show(match decide (l=m)with|true=>K x|false=>K y)=_;grind
   have sh:∀(b:Bool) (x y:ah),st.set d (cond b x y)=cond b (st.set d x) (st.set d y):=axX;simp[step,e,h1,sh];rfl
  .rename_i e;simp[step];cases hr (aL gl st x)<;>rfl
 case gK d x off=>
  simp[o1,step];cases aL gl st x<;>first|rfl|(refine oh _ ?_;rfl)
 case oz ai ks m k x=>
  have wb:∀(es:List (D×ah)) (k:D) (x:ah) (F:List (D×ah)->R),(match bm.bU.xQ ai ks k x es with
   |some l'=>F l'
   |none=>A.fail)=match e3 ai ks k es 0 with
    |some j=>F (np es k x j)
    |none=>A.fail:=by
   intro es k x F;show(match q6 ai ks k x es with
    |some l'=>F l'
    |none=>A.fail)=_
   grind[q6]
  simp[o1,step,wb];grind[oh]
 all_goals rfl
theorem F2(i:I)(st:ag)(K:ag->R):i6 bm.bU ar A gl i st K=step A gl i st K:=by
 cases i;case ap d s x sz b1=>
  simp[i6,step,hG];cases st.aR s<;>rfl
 case nj d s x sz b1=>
  simp[i6,step,hG];cases st.aR s<;>rfl
 case nk d s x sz b1=>
  simp[i6,step,hG];cases st.aR s<;>rfl
 case kO d s z i x sz b1=>
  have h:∀a b c i n k t u,bm.bU.FR a b c i n k (t&&u)=(Nat.beq a b&&Nat.beq c b&&decide (i=(n:Int))&&Nat.ble (n+1) k&&t&&u):=by
   intro a b c i n k t u;show(_&&(t&&u))=_;grind
  simp[i6,step,h];rfl
 case eq d neg ai ks x y=>
  have h:∀r:Bool,(match r with
   |true=>K (st.set d (.d (.bool (!neg))))
   |false=>K (st.set d (.d (.bool neg))))=K (st.set d (.d (.bool (cond neg (!r) r)))):=by
   simp
  simp[i6,step,h];rfl
 case un d op x=>
  have h:∀b:Bool,(match b with
   |true=>K (st.set d (.d (.bool false)))
   |false=>K (st.set d (.d (.bool true))))=K (st.set d (.d (.bool (!b)))):=by
   simp
  simp only[i6,step,h];rfl
 case lQ d x i sz=>
  have h:∀(l:List D) (n:Int),(match bm.bU.get l n with
   |.agg cs=>K (st.set d (.d (.e1 cs 0)))
   |x=>K (st.set d (.d (.e1 [x] 0))))=K (st.set d (.d (.e1 (l.getD n.toNat .dP).cells 0))):=by
   intro l n;show(match l.getD n.toNat .dP with
    |.agg cs=>K (st.set d (.d (.e1 cs 0)))
    |x=>K (st.set d (.d (.e1 [x] 0))))=_
   cases l.getD n.toNat .dP<;>rfl
  simp[i6,step,h];cases aL gl st i<;>try rfl
  rename_i y;cases y<;>try rfl
  cases aL gl st x<;>first|rfl|(refine oh _ ?_;rfl)
 case aJ d ai ks m k z ok=>
  simp[i6];split
  .rename_i kl vl e;simp[step,e];cases hq (aL gl st k)with
   |none=>rfl
   |some k=>
    have h:bm.bU.look ai ks k kl vl=CJ ai ks k kl vl:=rfl;grind[CJ]
  .rename_i i e;refine oh _ ?_;simp[step,e];cases hq (aL gl st k)with
   |none=>rfl
   |some k=>
    have h:∀es,bm.bU.xP ai ks k es=sy ai ks k es:=λ_=>rfl;grind[sy]
  .rfl
 all_goals (refine aAf ?_ (aln (ar:=ar) _ _ _);rfl)
theorem av7{α:Type}{b:Bool}{x y bA y':α}(h1:x=bA)(sh:y=y'):(match b with|true=>x|false=>y)=cond b bA y':=axZ
theorem KZ:∀(l:List cf) (st:ag) (K:ag->R),sA bm.bU ar A gl l st K=steps A gl l st K
 |[],st,K=>rfl
 |⟨none,i⟩::l,st,K=>by
  unfold sA steps;rw[F2];exact congrArg _ (funext λst=>KZ l st K)
 |⟨some (s,want),i⟩::l,st,K=>by
  simp[sA,steps,F2,KZ l];cases st.aR s<;>try rfl
  .rename_i x;cases x<;>try rfl
   rename_i b;cases want<;>cases b<;>rfl
  .rename_i vs;cases vs<;>rfl
theorem alo(g:cf)(st:ag)(K:ag->R):KR bm.bU ar A gl g st K=step1 A gl g st K:=by
 grind[KR,step1,F2]
theorem alp(id:Nat)(g:cf)(st:ag)(K:ag->R):FX bm.bU ar A gl id g st K=match g.g,jZ gl g.i st with
  |none,some (o,d,v)=>A.guard (Nat.blt id st.s.length) (K ({st with s:=st.s.set id o}.set d (v id)))
  |_,_=>A.fail:=by
 grind[FX,alk]
theorem alq:KV=A5:=by
 have h:FZ=mC:=by
  funext a b;unfold FZ mC;congr 1;grind
 grind[KV,A5]
theorem alr(id:Nat)(g:cf)(st:ag)(K:ag->R):KT bm.bU ar A gl id g st K=kp A gl id g st K:=by
 simp[KT,kp,alo,alp,S4];obtain⟨vJ,F3⟩:=g;cases vJ with
 |some _=>simp
 |none=>
  cases F3<;>try rfl
  rename_i d sz z n b1;cases dk id ar with
  |false=>rfl
  |true=>
   simp[jZ];cases aL gl st n<;>try rfl
   rename_i x;cases x<;>try rfl
   rename_i k m;show(match (decide (0<=m)&&decide (m<=(b1:Int)))with
    |true=>vH A _ _
    |false=>A.fail)=(match (none:Option (Nat×Bool)),(cond (decide (0<=m)&&decide (m<=(b1:Int))) (some (b9.box (List.replicate m.toNat z).flatten,d,λi=>ah.aN i 0 m.toNat m.toNat sz)) none)with
    |none,some (o,d,v)=>A.guard (Nat.blt id st.s.length) (K ({st with s:=st.s.set id o}.set d (v id)))
    |_,_=>A.fail)
   cases decide (0<=m)&&decide (m<=(b1:Int))<;>rfl
theorem als(id:Nat)(g:cf)(st aT:ag):FY bm.bU ar gl id g st aT=uT gl id g st aT:=by
 obtain⟨vJ,F3⟩:=g;cases vJ with
 |some _=>cases F3<;>rfl
 |none=>
  cases F3<;>try rfl
  simp only[FY,KU,KX];rfl
theorem Te:∀(l:List cf) (dy:List (List Nat)) (acc:List (cf×jc)) (id:Nat) (st:ag) (K:ag->R),F0 bm.bU ar A gl l dy acc id st K=qu A gl l dy acc id st K
 |[],_,_,_,_,_=>rfl
 |g::l,dy,acc,id,st,K=>by
  simp[F0,qu,alr,als,alq,Te l];rfl
theorem Tf:@KW bm.bU ar R A gl=qv A gl:=by
 funext l dy st K;exact Te _ _ _ _ _ _
theorem alu(Y:iR R)(yi:Nat):∀(l:List cf) (st:ag) (p:Option aB) (K:ag->Option aB->R),sB bm.bU ar A gl Y yi l st p K=h3 A gl Y yi l st p K:=by
 have wb:∀i st p K,CM bm.bU ar A gl Y yi i st p K=mD A gl Y yi i st p K:=by
  intro i st p K;simp[CM,mD,F2];rfl
 intro l;induction l with
 |nil=>intro st p K;rfl
 |cons g l ih=>
  intro st p K;obtain⟨vJ,i⟩:=g;cases vJ with
  |none=>simp_all[sB,h3]
  |some q=>
   obtain⟨s,want⟩:=q;simp[sB,h3,wb,ih];grind
theorem alv(Y:iR R)(yi:Nat):∀(c:eG) (st:ag) (p:Option aB) (K:aB->ag->Option aB->R),o2 bm.bU ar A gl Y yi c st p K=hk A gl Y yi c st p K:=by
 intro c;induction c with
 |ops l=>intro st p K;exact alu Y yi l st p _
 |any l dy=>simp_all[o2,hk,Tf]
 |seq a b i_a jr=>
  intro st p K;simp[o2,hk,i_a,jr];rfl
 |cond c a b i_a jr=>
  grind[o2,hk]
 |block i b ih=>
  intro st p K;simp[o2,hk,ih];rfl
 |loop ts bs b ih=>
  intro st p K;simp[o2,hk,ih,Tc];rfl
 |_=>intro st p K;rfl
theorem F4:∀(c:eG) (st:ag) (K:aB->ag->R),hM bm.bU ar A gl c st K=run A gl c st K:=by
 intro c;induction c with
 |ops l=>intro st K;exact KZ l st _
 |any l dy=>simp_all[hM,run,Tf]
 |seq a b i_a jr=>
  intro st K;simp[hM,run,i_a,jr];rfl
 |cond c a b i_a jr=>
  grind[hM,run]
 |block i b ih=>
  intro st K;simp[hM,run,ih];rfl
 |loop ts bs b ih=>
  intro st K;simp[hM,run,ih,Tc];rfl
 |ia x ps a b i_a jr=>
  intro st K;have h1:hM bm.bU ar A gl a=run A gl a:=axZ;have sh:hM bm.bU ar A gl b=run A gl b:=axZ;have av:∀mE ia ps g gI st K,F1 bm.bU ar A gl mE ia ps g gI st K=pq A gl mE ia ps g gI st K:=by
   intro mE ia ps g gI st K;simp[F1,pq,alv];rfl
  grind[hM,run]
 |_=>intro st K;rfl
theorem Tg(fn:aX)(args:List ah)(s:aU)(K:ah->aU->R):vI bm.bU ar A gl fn args s K=lS A gl fn args s K:=by
 simp[vI,lS,F4,alj];rfl
end
section
variable {P:Program}{gl:Nat->List D}
theorem a7.kf(ar:List Nat){f:Nat}{cM:aX}{args:List ah}{s s':aU}{r:ah}(h:a7 P f cM)(ax:∀ad,ad=bm.bU->∀Q:ah->aU->Prop,Q r s'->vI ad ar (bx P gl) gl cM args s Q):bG P gl f args s r s':=by
 have:=ax _ rfl (λfN xp=>fN=r/\xp=s') ⟨rfl,rfl⟩;grind[Tg,fh]
theorem a7.cn{f:Nat}{cM:aX}{args:List ah}{s s':aU}{r:ah}(h:a7 P f cM)(ax:∀ad,ad=bm.bU->∀Q:ah->aU->Prop,Q r s'->vI ad [] (bx P gl) gl cM args s Q):bG P gl f args s r s':=h.kf [] ax
theorem a7.jt(ar:List Nat){f:Nat}{cM:aX}{args:List ah}{s:aU}(Q:ah->aU->Prop)(h:a7 P f cM)(ax:∀ad,ad=bm.bU->∀K:ah->aU->Prop,(∀r s,Q r s->K r s)->vI ad ar (fR P gl) gl cM args s K):∃r s',Q r s'/\bG P gl f args s r s':=by
 have:=ax _ rfl _ λ_ _ h=>h;rw[Tg]at this;obtain⟨r,s',h1,sh⟩:=h.ext this;grind
theorem a7.cu{f:Nat}{cM:aX}{args:List ah}{s:aU}(Q:ah->aU->Prop)(h:a7 P f cM)(ax:∀ad,ad=bm.bU->∀K:ah->aU->Prop,(∀r s,Q r s->K r s)->vI ad [] (fR P gl) gl cM args s K):∃r s',Q r s'/\bG P gl f args s r s':=h.jt [] Q ax
theorem CN(s:List UInt8):∀(es:List (D×ah)) (i:Nat),(∀e∈es,∃t,e.1=.str t)->e3 false [2] (.str s) es i=some none\/∃j,j<es.length/\e3 false [2] (.str s) es i=some (some (i+j))
 |[],i,_=>.inl rfl
 |e::es,i,h=>by
  obtain⟨t,aE⟩:=h e aAX;obtain⟨k,v⟩:=e;subst aE;cases aY:decide (s=t)with
  |true=>
   refine .inr ⟨0,aCM _,?_⟩;show(match some (decide (s=t)&&true)with|some true=>some (some i)|some false=>e3 false [2] (.str s) es (i+1)|none=>none)=_;simp_all
  |false=>
   have ax:e3 false [2] (.str s) ((.str t,v)::es) i=e3 false [2] (.str s) es (i+1):=by
    show(match some (decide (s=t)&&true)with|some true=>some (some i)|some false=>e3 false [2] (.str s) es (i+1)|none=>none)=_;rw[aY];rfl
   rw[ax];rcases CN s es (i+1) λe he=>h e (aBe _ he)with h1|⟨j,h1,sh⟩
   .exact .inl h1
   .exact .inr ⟨j+1,aC7 h1,by rw[sh];congr 2;omega⟩
theorem alw{ad:bm}(ae:ad=bm.bU)(s:List UInt8){kl vl:List D}(aq:∀k∈kl,∃t,k=.str t)(aI:kl.length=vl.length):∃o,ad.look false [2] (.str s) kl vl=some o/\∀v,o=some v->v∈vl:=by
 subst ae;show ∃o,CJ false [2] (.str s) kl vl=some o/\_;unfold CJ;rcases CN s ((kl.zip vl).map λe=>(e.1,ah.d e.2)) 0 (λe he=>by
  obtain⟨p,hp,rfl⟩:=aAR.1 he;exact aq _ (List.of_mem_zip hp).1)with h|⟨j,h1,sh⟩
 all_goals simp_all
theorem bZ{Q:ah->aU->Prop}{r fN:ah}{s s':aU}(h:Q r s)(h1:r=fN)(sh:s=s'):Q fN s':=axY
def bX{α:Type}(S:α->ag)(J:α->Prop)(sC:α->Nat)(n:Nat)(st:ag):Prop:=∃a,J a/\sC a=n/\st=S a
theorem ec{α:Type}{S:α->ag}{J:α->Prop}{sC:α->Nat}{n:Nat}{st:ag}(b:α)(au:J b)(hm:sC b<n)(he:st=S b):∃m,m<n/\bX S J sC m st:=⟨_,hm,b,au,rfl,he⟩
theorem cZ{f:Nat}{dN:List ah}{s:aU}{r:ah}{t:aU}{K:ah->aU->Prop}(aq:K r t)(h:bG P gl f dN s r t:=by assumption):∃r s2,bG P gl f dN s r s2/\K r s2:=⟨r,t,h,aq⟩
theorem c6{a b:Prop}(k:b)(h:a:=by first|assumption|(simp only[aJ ae,aAc,aAi,aAb,aAu,aA6,aAA,aCn,true_and,aAh];omega)):a/\b:=⟨h,k⟩
theorem av8{f:Nat}{dN:List ah}{s:aU}{r:ah}{t:aU}{K:ah->aU->Prop}(h:bG P gl f dN s r t)(aq:K r t):∃r s2,bG P gl f dN s r s2/\K r s2:=⟨r,t,h,aq⟩
end
section
variable {P:Program}{gl:Nat->List D}{ad:bm}{ar:List Nat}
theorem alx(ae:ad=bm.bU){a b:eG}{st:ag}{K:aB->ag->Prop}(pX:aB->ag->Prop)(h1:hM ad ar (fR P gl) gl a st pX)
  (sh:∀x aT,pX x aT->(match x with
   |.normal=>hM ad ar (fR P gl) gl b aT K
   |x=>K x aT)):hM ad ar (fR P gl) gl (.seq a b) st K:=by
 subst ae;rw[F4]at h1;obtain⟨e,cI,k1,k2⟩:=Rc (bt:=λ_ _=>False) h1;have av:=sh e cI k1;show hM bm.bU ar (fR P gl) gl a st _;rw[F4];exact k2 _ av
def F5:List eG->eG->eG
 |[],c=>c
 |a::l,c=>.seq a (F5 l c)
theorem xR(ae:ad=bm.bU):∀(l:List eG) {c:eG} {st:ag} {K:aB->ag->Prop} (pX:aB->ag->Prop),hM ad ar (fR P gl) gl (F5 l .skip) st pX->
  (∀x aT,pX x aT->(match x with
   |.normal=>hM ad ar (fR P gl) gl c aT K
   |x=>K x aT))->hM ad ar (fR P gl) gl (F5 l c) st K
 |[],c,st,K,pX,h1,sh=>sh .normal st h1
 |a::l,c,st,K,pX,h1,sh=>by
  refine alx ae (λx st=>match x with
   |.normal=>hM ad ar (fR P gl) gl (F5 l .skip) st pX
   |x=>pX x st) h1 λx aT ak=> ?_
  cases x with
  |normal=>exact xR ae l pX ak sh
  |exit i=>exact sh _ _ ak
  |ret=>exact sh _ _ ak
def CO(aR:Nat->ah):List (Nat×ah)->Nat->ah
 |[]=>aR
 |(k,v)::l=>cC (CO aR l) k v
theorem K0{aR:Nat->ah}:∀{l:List (Nat×ah)},(∀p∈l,aR p.1=p.2)->CO aR l=aR
 |[],_=>rfl
 |(k,v)::l,h=>by
  show cC (CO aR l) k v=aR;rw[K0 (λp hp=>h p (aBe _ hp))];funext j;rw[dh];split
  .rename_i e;subst e;exact(h (j,v) aAX).symm
  .rfl
def pY(st:ag)(l:List (Nat×ah))(bH:Nat->Option (List ah))(s:aU):Prop:=(∀p∈l,st.aR p.1=p.2)/\st.bH=bH/\st.s=s
theorem pY.eq{st:ag}{l:List (Nat×ah)}{bH:Nat->Option (List ah)}{s:aU}(h:pY st l bH s):st=⟨CO st.aR l,bH,s⟩:=by
 obtain⟨aR,av9,s'⟩:=st;obtain⟨h1,sh,av⟩:=h;grind[K0]
end
def aC8:=@Nat.lt_of_succ_lt_succ
def aB3:=@List.mem_or_eq_of_mem_set
def aAk:=@decide_eq_true
theorem ayj(h:p:=by subst h;rfl):p:=h
theorem z6{α:Type}{o:Option α}{x:α}{K:α->Prop}:o=some x->K x->(match o with|some y=>K y|none=>False):=λh k=>axY
theorem z7{b:Bool}{K:Prop}:b=true->K->(match b with|true=>K|false=>False):=λh k=>axY
theorem av'{R:Type}{A:mB R}{gl:Nat->List D}{ad:bm}(h:ad=bm.bU){ar aly:List Nat}{c:eG}{st:ag}{K:aB->ag->R}:hM ad ar A gl c st K=hM ad aly A gl c st K:=by
 grind[F4]
theorem Ti:∀(vs a b:List ah),putCells a 0 vs=putCells a 0 vs->∀(c:List ah) (j:Nat),j+vs.length<=b.length->putCells (a++(b++c)) (a.length+j) vs=a++(putCells b j vs++c)
 |[],_,_,_,_,_,_=>rfl
 |v::vs,a,b,_,c,j,h=>by
  have aI:(v::vs).length=vs.length+1:=rfl;show putCells ((a++(b++c)).set (a.length+j) v) (a.length+j+1) vs=a++(putCells (b.set j v) (j+1) vs++c);rw[List.set_append_right _ _ axW,show a.length+j-a.length=j by omega,List.set_append_left _ _ axW,aB4];exact Ti vs a (b.set j v) rfl c (j+1) (by rw[aBm];omega)
theorem alz:∀(vs:List ah) (b:List ah) (j:Nat),(putCells b j vs).length=b.length
 |[],_,_=>rfl
 |v::vs,b,j=>by
  show(putCells (b.set j v) (j+1) vs).length=_;rw[alz vs,aBm]
def kH(z:Nat)(rows:List (List ah)):Prop:=∀r∈rows,r.length=z
theorem kH.len{z:Nat}:∀{rows:List (List ah)},kH z rows->rows.flatten.length=rows.length*z
 |[],_=>axX
 |r::rows,h=>by
  have:=kH.len (rows:=rows) (λx ak=>h x (aBe _ ak));have sh:=h r aAX;rw[List.flatten_cons,aAA,this,sh,aAu,aBb];omega
theorem kH.cut{z:Nat}:∀{rows:List (List ah)},kH z rows->∀{i:Nat} (h:i<rows.length),∃a b,rows.flatten=a++(rows[i]++b)/\a.length=i*z/\∀fN,(rows.set i fN).flatten=a++(fN++b)
 |r::rows,_,0,_=>⟨[],rows.flatten,rfl,axX,λfN=>rfl⟩
 |r::rows,aO,i+1,h=>by
  obtain⟨a,b,h1,sh,av⟩:=kH.cut (rows:=rows) (λx ak=>aO x (aBe _ ak)) (i:=i) (aC8 h);refine⟨r++a,b,?_,?_,λfN=> ?_⟩
  .show r++rows.flatten=_;rw[h1,aBj];rfl
  .rw[aAA,sh,aO r aAX,aBb];omega
  .show r++(rows.set i fN).flatten=_;rw[av,aBj]
theorem kH.set{z:Nat}{rows:List (List ah)}(aO:kH z rows)(i:Nat){r:List ah}(ax:r.length=z):kH z (rows.set i r):=λx ak=>by
 rcases aB3 ak with h|rfl
 .exact aO x h
 omega
theorem kH.put{z:Nat}{rows:List (List ah)}(aO:kH z rows){i:Nat}(h:i<rows.length){j:Nat}{vs:List ah}(aK:j+vs.length<=z):putCells rows.flatten (i*z+j) vs=(rows.set i (putCells rows[i] j vs)).flatten:=by
 obtain⟨a,b,h1,sh,av⟩:=aO.cut h;rw[h1,av,<-sh];exact Ti vs a _ rfl b j (by rw[aO _ (aAl h)];omega)
theorem kH.get{z:Nat}{rows:List (List ah)}(aO:kH z rows){i:Nat}(h:i<rows.length){j:Nat}(aK:j<z):rows.flatten.getD (i*z+j) .undef=rows[i].getD j .undef:=by
 obtain⟨a,b,h1,sh,_⟩:=aO.cut h;have:=aO _ (aAl h);grind
theorem kH.row{z:Nat}{rows:List (List ah)}(aO:kH z rows){i:Nat}(h:i<rows.length):(rows.flatten.drop (i*z)).take z=rows[i]:=by
 obtain⟨a,b,h1,sh,_⟩:=aO.cut h;have:=aO _ (aAl h);simp_all
theorem kH.sub{z:Nat}{rows:List (List ah)}(aO:kH z rows){i:Nat}(h:i<rows.length){j n:Nat}(aK:j+n<=z):(rows.flatten.drop (i*z+j)).take n=(rows[i].drop j).take n:=by
 obtain⟨a,b,h1,sh,_⟩:=aO.cut h;have:=aO _ (aAl h);rw[h1,<-sh,<-aCt,List.drop_left,List.drop_append_of_le_length axW,List.take_append_of_le_length axZ]
section
variable {ad:bm}(h:ad=bm.bU){z:Nat}{rows:List (List ah)}(aO:kH z rows){i:Nat}(hi:i<rows.length)
include h
theorem pZ(i z:Nat):ad.l9 0 (Int.ofNat i) z=i*z:=by
 simp_all[uh]
theorem p2(a b:Nat):ad.lD a b=a+b:=ayj
include aO hi
theorem Tj{j n:Nat}(aK:j+n<=z):ad.hL (i*z+j) n rows.flatten true=true:=by
 rw[(uh h).2.1,aAk ?_];rfl;rw[aO.len];have:(i+1)*z<=rows.length*z:=aAV _ hi;grind
theorem K1{j n:Nat}(aK:j+n<=z):ad.mR true (i*z+j) n rows.flatten true=true:=by
 rw[(uh h).2.2.1,aAk ?_];rfl;rw[aO.len];have:(i+1)*z<=rows.length*z:=aAV _ hi;grind
theorem alA{j:Nat}(aK:j<z):ad.zT (i*z+j) rows.flatten=true:=by
 rw[(uh h).2.2.2.1,aAk ?_];rw[aO.len];have:(i+1)*z<=rows.length*z:=aAV _ hi;grind
theorem Tk:ad.oZ rows.flatten (i*z) z=cT (.agg rows[i]):=by
 subst h;show cT (.agg ((rows.flatten.drop _).take _))=_;rw[aO.row hi]
theorem Tl{j n:Nat}(aK:j+n<=z):ad.oZ rows.flatten (i*z+j) n=cT (.agg ((rows[i].drop j).take n)):=by
 subst h;show cT (.agg ((rows.flatten.drop _).take _))=_;rw[aO.sub hi aK]
theorem alB{j:Nat}(aK:j<z):ad.jS rows.flatten (i*z+j)=snap (rows[i].getD j .undef):=by
 subst h;show snap (rows.flatten.getD _ _)=_;rw[aO.get hi aK]
theorem alC{j:Nat}(aK:j<z):ad.CF rows.flatten (i*z+j)=rows[i].getD j .undef:=by
 subst h;show rows.flatten.getD _ _=_;rw[aO.get hi aK]
theorem alD{j:Nat}(aK:j<z):ad.CG rows.flatten (i*z+j)=some (rows.set i (rows[i].set j .undef)).flatten:=by
 subst h;exact congrArg some (aO.put hi (j:=j) (vs:=[.undef]) aK)
theorem K2{j:Nat}{vs:List ah}(aK:j+vs.length<=z):ad.lC rows.flatten (i*z+j) vs=some (rows.set i (putCells rows[i] j vs)).flatten:=by
 subst h;exact congrArg some (aO.put hi aK)
end
open Go.RowKit Go.Sort
section
variable {P:Program}{gl:Nat->List D}{w:World}{G:bI}{ρ:List Nat}
def F6:List D:=Lib.pow10Tab.map λz=>.int .u64 z
structure F7(P:Program)(gl:Nat->List D)(f ui:Nat):Prop where
 name:P.globalNamed "internal/strconv.uint64pow10" =some ui
 tab:gl ui=F6
 all:∀(n:Int),-9223372036854775808<=n->n<=9223372036854775807->∀w:World,Lib.TabIs P w "internal/strconv.uint64pow10" .u64 Lib.pow10Tab->
  Calls P f #[.int .i64 n] w λe w'=>e=.returned (.string ⟨(Lib.itoa n).toArray⟩)/\Below w.heap.size w w'
theorem Tm{k:IntKind}:∀{zs:List Int} {vs:List Value},cl w G vs (zs.map λz=>.int k z)->vs=zs.map λz=>.int k z
 |[],_,h=>by cases h;rfl
 |z::zs,_,h=>by
  cases h with
  |cons v _ vs _ h1 sh=>
   cases h1;rw[Tm sh];rfl
theorem alE{f ui:Nat}(J:F7 P gl f ui)(aC:py gl w G):Lib.TabIs P w "internal/strconv.uint64pow10" .u64 Lib.pow10Tab:=by
 have h1:=aC.1 ui;have sh:=aC.2 ui;rw[J.tab]at h1 sh;have aI:(F6).length=20:=by grind[F6,Lib.pow10Tab_length]
 rcases sh with sh|⟨c,E,fz,⟨_,_,sh⟩,av⟩
 .omega
 .generalize hp:Value.pointer (some ⟨ui,0,none⟩)=q at h1;cases h1 with
  |e1 b base off vs cs aW bL=>
   simp at hp;obtain⟨rfl,hp⟩:=hp;have au:base=0:=axW;have jk:=Tm bL;have oJ:vs.length=20:=by grind[Lib.pow10Tab_length]
   unfold Lib.TabIs World.var?;rw[J.name];simp[aCy,sh,aAe];apply Array.ext
   .simp_all
   .intro j cW hx;have hI:vs[j]?=some (vs[j]' axW):=aAj _;have:=(aW j _ hI).1;unfold World.cell? at this;grind
theorem alF{f ui:Nat}{n:Int}{s:aU}(bh:gQ P f)(J:F7 P gl f ui)(wb: -9223372036854775808<=n)(h1:n<=9223372036854775807):bG P gl f [.d (.int .i64 n)] s (.d (.str (Lib.itoa n))) s:=by
 refine vE bh λw G ρ vs ct aC hv=> ?_;cases hv with
 |cons v1 _ pB _ sh av=>
  cases av;cases sh with
  |d _ _ sh=>
   cases sh;refine⟨_,J.all n wb h1 w (alE J aC),?_⟩;rintro e w' ⟨rfl,au⟩;exact⟨_,rfl,λ_=>.d _ _ (.str _ _ rfl),au⟩
theorem K3:∀(k n:Nat),n<10^(k+1)->(Lib.decDigits n).length<=k+1
 |0,n,h=>by simp_all[Lib.decDigits]
 |k+1,n,h=>by
  rw[Lib.decDigits];split
  .simp
  .have:=K3 k (n/10) axW;simp_all
theorem alG{n:Int}(wb: -9223372036854775808<=n)(h1:n<=9223372036854775807):(Lib.itoa n).length<=20:=by
 unfold Lib.itoa;split
 .have:=K3 18 n.natAbs axW;simp_all
 .have:=K3 18 n.toNat axW;omega
end
section
variable {P:Program}{gl:Nat->List D}
def K4(P:Program)(f:Nat):Prop:=∀(s:ByteArray) (c:Int) (w:World),Calls P f #[.string s,.int .u8 c] w λe w'=>e=.returned (.int .i64 (Lib.indexByte s.data.toList c.toNat.toUInt8))/\w'=w
theorem alH{f:Nat}{bs:List UInt8}{c:Int}{s:aU}(bh:gQ P f)(J:K4 P f):bG P gl f [.d (.str bs),.d (.int .u8 c)] s (.d (.int .i64 (Lib.indexByte bs c.toNat.toUInt8))) s:=by
 refine vE bh λw G ρ vs ct aC hv=> ?_;cases hv with
 |cons v1 _ pB _ sh av=>
  cases av with
  |cons v3 _ awa _ aW bL=>
   cases bL;cases sh with
   |d _ _ sh=>
    cases sh with
    |str b _ au=>
     cases aW with
     |d _ _ aW=>
      cases aW;refine⟨_,J b c w,?_⟩;rintro e w' ⟨rfl,rfl⟩;exact⟨_,rfl,λ_=>by rw[au];exact .d _ _ (.int _ _),Below.refl _ _⟩
theorem Tn:∀(l:List UInt8) (c:UInt8),Lib.indexByte l c= -1\/∃k:Nat,k<l.length/\Lib.indexByte l c=Int.ofNat k
 |[],_=>.inl rfl
 |b::l,c=>by
  unfold Lib.indexByte;split
  .exact .inr ⟨0,axX,rfl⟩
  .split
   .exact .inl rfl
   .rename_i h1 sh;rcases Tn l c with h|⟨k,aq,h⟩
    .rw[h]at sh;exact absurd rfl sh
    .exact .inr ⟨k+1,by simp;omega,by rw[h];rfl⟩
def F8(P:Program)(f:Nat):Prop:=(∀(q2 off cap:Nat) (zs:List Int) (w:World),Holds (Value.int .i64) w q2 off zs.toArray->q2<w.heap.size->zs.length<4611686018427387904->
 Calls P f #[.slice (some ⟨q2,off,none⟩) zs.length cap] w λe w'=>e=.returned (.tuple #[])/\∃n os,w'=grow (putRow (Value.int .i64) (Sort.ahead w n) q2 off (zs.mergeSort λx y=>decide (x<=y)).toArray) os)/\
 ∀(p:Option Addr) (cap:Nat) (w:World),Calls P f #[.slice p 0 cap] w λe w'=>e=.returned (.tuple #[])/\w'=w
theorem alI{w:World}{n b:Nat}{os:Array Obj}{zs:List Int}{c:Array Value}{E:TypeId}{fz:Nat×Nat}(au:w.heap[b]?=some (.cells c E fz)):
  (grow (putRow (Value.int .i64) (Sort.ahead w n) b 0 zs.toArray) os).heap[b]?=some (.cells (Sort.putCells (Value.int .i64) 0 zs.toArray c) E fz):=by
 have aA:=(aAU.1 au).1;unfold grow putRow mapBlock;rw[Array.getElem?_append_left axY,aCg,aAD rfl];show(w.heap[b]?).map _=_;rw[au];rfl
theorem alJ{w:World}{n b k:Nat}{os:Array Obj}{zs:List Int}(aq:k<w.heap.size)(cB:k≠b):
  (grow (putRow (Value.int .i64) (Sort.ahead w n) b 0 zs.toArray) os).heap[k]?=w.heap[k]?:=by
 unfold grow putRow mapBlock;rw[Array.getElem?_append_left axY,aCg,aAG (λh=>cB h.symm)];rfl
theorem alK{f:Nat}(bh:gQ P f)(J:F8 P f)(zs:List Int)(aO:zs.length<=1073741824):
  bG P gl f [.aN 0 0 zs.length zs.length 1] [.box (zs.map λz=>ah.d (.int .i64 z))] (.tuple []) [.box ((zs.mergeSort λx y=>decide (x<=y)).map λz=>ah.d (.int .i64 z))]:=by
 refine⟨bh,λw G ρ vs ct aC aA hv=> ?_⟩;cases hv with
 |cons v1 _ pB _ h1 sh=>
  cases sh;cases h1 with
  |aN _ _ _ _ eu _ b hi iF cg=>
   obtain⟨c,E,fz,au,aDm,dA,hlen,dz⟩:=(show dM w G ρ b (.obj 0) (.du 0) _ from ct.2 0 b _ hi rfl);rw[aAb]at hlen;have Kr:=(aAU.1 au).1;have aDE:∀j (h:j<zs.length),c[j]?=some (.int .i64 zs[j]):=λj h=>by
    have az:c[j]?=some (c[j]' axW):=aA3 _;have:=dz j _ (.d (.int .i64 zs[j])) az axX;rw[az];generalize c[j]' axW=v at*;cases (show df w G ρ v (.d (.int .i64 zs[j]))from this)with
    |d _ _ h=>cases h;rfl
   have eW:Holds (Value.int .i64) w b 0 zs.toArray:=λj aK=>by
    have aK:=axW;rw[aA2];refine⟨?_,?_⟩
    .grind[cell_of_block]
    .rw[u5 au];grind
   refine(J.1 b 0 eu zs w eW Kr axW).mono ?_;rintro e w' ⟨rfl,n,os,rfl⟩;obtain⟨ys,Co⟩:∃ys,ys=zs.mergeSort λx y=>decide (x<=y):=⟨_,rfl⟩;have sa:ys.length=zs.length:=axY;rw[<-Co];have iI:=alI (n:=n) (os:=os) (zs:=ys) au;have jQ:(Sort.putCells (Value.int .i64) 0 ys.toArray c).size=c.size:=by grind[Sort.putCells]
   obtain⟨bN,b5,dq⟩:=Kx (v:=.bool false) (G':=G) (s':=[b9.box (ys.map λz=>ah.d (.int .i64 z))]) (o':=.box (ys.map λz=>ah.d (.int .i64 z))) ct aA hi rfl dA (λg h=>by grind[Value.ownBlock])
    (w':=grow (putRow (Value.int .i64) (Sort.ahead w n) b 0 ys.toArray) os)
    ⟨rfl,rfl,axX,λk aq cB _=>alJ aq cB⟩ (λ_=>.inl rfl) (λk m lW ey=>by
     rcases lW with rfl|lW
     .obtain⟨c2,u6,qG,q1,bF⟩:=ey;rw[au]at q1;simp at q1;obtain⟨rfl,_,_⟩:=q1;exact⟨_,_,_,iI,axW⟩
     grind[Value.ownBlock])
    (show dM _ _ _ _ _ _ _ from⟨_,E,fz,iI,λj aK=>aDm j axW,dA,axY,λj v x hv ak=>by
     rw[aA4]at ak;have ep:j<ys.length:=axZ;rw[aAj ep]at ak;simp at ak;subst ak;have xc:j<c.size:=axW;unfold Sort.putCells at hv;rw[Array.getElem?_mapIdx,aA3 xc]at hv;have y4:0<=j/\j<0+ys.toArray.size:=⟨aAa _,axY⟩;simp only[aBp,aAe,aAD y4]at hv;subst hv;have:ys.toArray[j-0]! =ys[j]:=axY;rw[this];exact .d _ _ (.int _ _)⟩)
   exact⟨_,G,ρ,rfl,.tuple [] _ .nil,bN,b5,dq,λ_ _ h=>h⟩
theorem alL{f:Nat}(bh:gQ P f)(J:F8 P f):bG P gl f [.d (.list 1 [])] [] (.tuple []) []:=by
 refine vE bh λw G ρ vs ct aC hv=> ?_;cases hv with
 |cons v1 _ pB _ h1 sh=>
  cases sh;cases h1 with
  |d _ _ h1=>
   have:∃p cap,v1=.slice p 0 cap:=by
    cases h1 with
    |kT=>simp
    |list b off n cap _ _ vs h=>simp_all
   obtain⟨p,cap,rfl⟩:=this;refine⟨_,J.2 p cap w,?_⟩;rintro e w' ⟨rfl,rfl⟩;exact⟨_,rfl,λ_=>.tuple [] _ .nil,Below.refl _ _⟩
end
open Go.RowKit Go.Sort Go.Lib
section
variable {P:Program}{gl:Nat->List D}
def K5(P:Program)(f sz T:Nat):Prop:=∃(i0:TypeInfo) (z:Value),i0.size=sz/\z.cells.size=sz/\0<sz/\i0.bytes<=1000/\
 (∀(a:Option Addr) (w:World),Calls P f #[.slice a 0 0,.int .i64 0] w λe w'=>e=.returned (.slice a 0 0)/\w'=w)/\
 ∀(a:Option Addr) (n:Nat) (w:World),0<n->n*i0.bytes<=140737488355328->n<=4611686018427387904->Calls P f #[.slice a 0 0,.int .i64 n] w λe w'=>
  e=.returned (.slice (some ⟨w.heap.size,0,none⟩) 0 (grownCap w n 0 T))/\w'=w.drew.alloc (.cells (Builtin.zeroCells z.cells n++Builtin.zeroCells z.cells (grownCap w n 0 T-n)) T)
theorem alM{f sz T n:Nat}(bh:gQ P f)(J:K5 P f sz T)(ay:n<=1048576):
  bG P gl f [.own sz [],.d (.int .i64 (Int.ofNat n))] [] (.gJ sz) []:=by
 obtain⟨i0,z,h1,sh,av,aW,bL,cW⟩:=J;refine⟨bh,λw G ρ vs ct aC aA hv=> ?_⟩;cases hv with
 |cons v1 _ pB _ q1 bF=>
  cases bF with
  |cons v2 _ oN _ cE ei=>
   cases ei;cases cE with
   |d _ _ cE=>
    cases cE;cases q1 with
    |nil a _=>
     rcases aCC n with rfl|gu
     .refine(bL a w).mono ?_;rintro e w' ⟨rfl,rfl⟩;exact⟨_,G,ρ,rfl,.inr ⟨a,rfl⟩,ct,aA,Good.refl aA,λ_ _ h=>h⟩
     .have au:n*i0.bytes<=140737488355328:=aAZ (Nat.mul_le_mul ay aW) ax0;refine(cW a n w gu au axW).mono ?_;rintro e w' ⟨rfl,rfl⟩;have jf:gD w (.cells (Builtin.zeroCells z.cells n++Builtin.zeroCells z.cells (grownCap w n 0 T-n)) T) (w.drew.alloc (.cells (Builtin.zeroCells z.cells n++Builtin.zeroCells z.cells (grownCap w n 0 T-n)) T)):=⟨rfl,rfl,rfl⟩;have iF:=grownCap_ge w n 0 T;refine⟨_,fP w G .res 0,ρ,rfl,.inl ⟨w.heap.size,0,grownCap w n 0 T,_,T,(0,0),[],rfl,aAa _,jf.new,λj _ h=>axW,?_,av,by rw[fP,iC];simp,λd aY=>(aAO aY).elim,λj v hv=>axY,.nil⟩,⟨ct.1,λi b o _ bd=>axY⟩,jf.lt aA,jf.good aA axX,λ_ _ h=>h⟩;have aj:(Builtin.zeroCells z.cells n++Builtin.zeroCells z.cells (grownCap w n 0 T-n)).size=n*sz+(grownCap w n 0 T-n)*sz:=ayE;rw[aj,<-aBb];simp_all
def aC9:=@Classical.choose_spec
theorem ayx(h:p:=by simp at hv):p:=h
theorem ay8(h:p:=by grind[IntKind.wrap,IntKind.bits]):p:=h
def aC':=@Bool.false_and
def aAK:=@decide_eq_false
def aBt:=@Or.elim
def aAz:=@Exists.elim
def aDa:=@List.drop_zero
theorem ayL(h:p:=by cases x;rfl):p:=h
theorem ayU(h:p:=by grind[Step.d]):p:=h
def aBf:=@Bool.not_eq_false'
theorem ayy(h:p:=by show 0+_<=_;omega):p:=h
theorem azw(h:p:=by have:=h1.w (ay.b2 he);omega):p:=h
theorem ayV(h:p:=by rw[aAy];exact e):p:=h
theorem ax6(h:p:=by grind[e8]):p:=h
theorem ax1(h:p:=by simp_all[aJ]):p:=h
theorem ayb(h:p:=by simp only[aJ ae,aAh,aAp];omega):p:=h
theorem ax8(h:p:=by simp only[aJ ae,aAi,aAA,aAu,aA6];omega):p:=h
theorem aya(h:p:=by simp only[aJ ae,aAi,aAu,aA6];omega):p:=h
def aA9:=@List.take_add_one
theorem ayc(h:p:=by grind[dJ]):p:=h
theorem ayd(h:p:=by rw[ae,fa,aAy];rfl):p:=h
theorem ays(h:p:=by simp only[aJ ae,aAA,aAu,aA6];omega):p:=h
theorem ax4(h:p:=by simp only[aJ ae];decide):p:=h
theorem azR(h:p:=by simp only[aJ ae,aAp];simp):p:=h
theorem ayi(h:p:=by simp only[aJ ae,aAy];rfl):p:=h
theorem ay9(h:p:=by simp only[aJ ae]):p:=h
theorem azS(h:p:=by simp only[aJ ae,aAp,aAh]at t2;omega):p:=h
theorem ayz(h:p:=by simp only[aJ ae];rfl):p:=h
theorem aye(h:p:=by rw[b7]):p:=h
theorem ay'(h:p:=by rw[jE];exact(o6 ae (by simp) (by grind)).trans (Int.zero_add _)):p:=h
theorem ayt(h:p:=by simp only[aJ ae,aBf,aAi,aAh]at i';omega):p:=h
def aBE:=@List.map_map
def aBu:=@List.length_filter_le
def aBC:=@List.filter_append
theorem ayu(h:p:=by simp only[aAh];omega):p:=h
theorem azT(h:p:=by first|omega|(simp only[aJ ae,aAA,aAu,aA6];omega)):p:=h
theorem azU(h:p:=by obtain⟨s,_,rfl⟩:=aAR.1 hv;simp):p:=h
def aBD:=@Nat.ble_eq_true_of_le
theorem ax3(h:p:=by subst ae;rfl):p:=h
def aCN:=@List.getElem_cons_succ
def aDb:=@List.getElem_cons_zero
theorem ayW(h:p:=by rw[oq ae];rfl):p:=h
theorem aza(h:p:=by rw[(eF ae).2.1];simp_all):p:=h
theorem ayX(h:p:=by rw[(eF ae).2.1];rfl):p:=h
theorem azV(h:p:=by simp only[aJ ae,aAc,aAi,aAh];omega):p:=h
theorem ayM(h:p:=by rw[ey];simp only[aJ ae,aAc,aAi,aAh];omega):p:=h
theorem azx(h:p:=by rw[o6 ae (by simp only[aAh];omega) (by simp only[aAh];omega)];exact Int.add_zero _):p:=h
theorem azy(h:p:=by simp only[aJ ae,aBq,aBZ];omega):p:=h
theorem azz(h:p:=by rw[ey];simp only[aJ ae,aBq,aBZ,aAh,Int.toNat_natCast];omega):p:=h
theorem azW(h:p:=by simp only[aJ ae,decide_true,aB',aAc,aAi,aAh];omega):p:=h
theorem ayN(h:p:=by grind[pb]):p:=h
def aCu:=@Int.natCast_nonneg
def aBF:=@Int.ofNat_lt
theorem azX(h:p:=by subst h;exact aAk (aBF.2 hh)):p:=h
theorem azY(h:p:=by subst h;exact aAK λx=>hh (aBF.1 x)):p:=h
theorem azb(h:p:=by show h+1<=j;omega):p:=h
theorem azc(h:p:=by show j-(h+1)<j-i;omega):p:=h
theorem azd(h:p:=by show i<=h;omega):p:=h
theorem aze(h:p:=by show h-i<j-i;omega):p:=h
def aCO:=@List.length_eq_zero_iff
theorem azZ(h:p:=by subst ae;exact aBD (by omega)):p:=h
def aDc:=@List.length_replicate
def aCP:=@Int.ofNat.inj
theorem azA(h:p:=by rw[aBm];exact aI):p:=h
theorem azB(h:p:=by rw[ae,ch,aAy];rfl):p:=h
def aCv:=@List.getElem_map
theorem azf(h:p:=by grind[yu]):p:=h
theorem ayY(h:p:=by grind[AO]):p:=h
def aCQ:=@List.map_set
def aDd:=@List.getElem_set_self
def aDe:=@List.set_getElem_self
theorem azC(h:p:=by rw[<-qk];try kernel_rfl):p:=h
theorem azD(h:p:=by rw[aAb];omega):p:=h
theorem az0(h:p:=by rw[aDe,<-ey];try kernel_rfl):p:=h
theorem azE(h:p:=by rw[yu];exact hi):p:=h
theorem azF(h:p:=by subst ae;subst sh;cases h):p:=h
def aBG:=@List.filter_cons_of_pos
def aBP:=@List.filter_cons_of_neg
theorem az1(h:p:=by unfold gj;rw[aAc];exact⟨aAk (aCu _),aAk (aBF.2 h)⟩):p:=h
def aCw:=@of_decide_eq_false
theorem az2(h:p:=by have:(l::ls).length=ls.length+1:=rfl;omega):p:=h
theorem az3(h:p:=by have:(y::ys).length=ys.length+1:=rfl;omega):p:=h
theorem az4(h:p:=by rw[aAL,aAQ e,<-aAL];exact av):p:=h
theorem az5(h:p:=by rw[aAW (by rw[b3.len];exact dw)]):p:=h
theorem az6(h:p:=by show lj n (i*33554432+0) M;rw[aAS];exact b7):p:=h
theorem azg(h:p:=by subst ae;exact bE.trans aq.symm):p:=h
theorem az7(h:p:=by subst ae;rw[jQ];exact(aAb _).trans lY):p:=h
theorem az8(h:p:=by rw[jQ];exact c7 (by rw[lY];exact h)):p:=h
theorem az9(h:p:=by rw[ch,aAb,aBq];omega):p:=h
theorem azG(h:p:=by rw[my];exact sX ae q0 (by decide)):p:=h
theorem azh(h:p:=by show q-(i+1)<q-i;omega):p:=h
theorem azi(h:p:=by subst ae;show(!decide (e=0))=true;rw[aAK he];rfl):p:=h
theorem az'(h:p:=by subst ae;show(!decide _)=false;rw[aAk rfl];rfl):p:=h
def jG(q p:Prop):Prop:=q->p
theorem jG.rfl{p:Prop}:jG p p:=id
theorem F9{q p:Prop}(h:jG q p:=by(conv=>arg 2;cbv);first|(show jG _ (Exists _);exact alN)|(show jG _ (And _ _);exact alO)|((first|simp -proj only[‹_=true›]|simp -proj only[‹_=false›]|simp -proj only[‹_=some _›]|simp -proj only[‹_=none›]|simp -proj only[t2]|simp -proj only[t1]|simp -proj only[bw]|simp -proj only[a2]|simp -proj only[a3]|simp -proj only[bJ]|simp -proj only[a6]|simp -proj only[cq]|simp -proj only[t3]|simp -proj only[c1]|simp -proj only[c2]|simp -proj only[c3]|simp -proj only[t5]|simp -proj only[d1]|simp -proj only[d2]|simp -proj only[d3]|simp -proj only[AN]|simp -proj only[t4]|simp -proj only[g1]|simp -proj only[t6]|simp -proj only[t0]|simp -proj only[i7]|simp -proj only[gE]|simp -proj only[g2]|simp -proj only[bN]|simp -proj only[eb]|simp -proj only[b']|simp -proj only[cr]|simp -proj only[dE]|simp -proj only[g3]|simp -proj only[fb]|simp -proj only[w1]|simp -proj only[bW]|simp -proj only[de]|simp -proj only[f1]|simp -proj only[t7]|simp -proj only[gW]|simp -proj only[dp]|simp -proj only[r0]|simp -proj only[gd]|simp -proj only[dF]|simp -proj only[t8]|simp -proj only[k7]|simp -proj only[f2]|simp -proj only[hK]|simp -proj only[b5]|simp -proj only[i']|simp -proj only[kI]|simp -proj only[kJ]|simp -proj only[f0]|simp -proj only[q1]|simp -proj only[gY]|simp -proj only[dq]|simp -proj only[v1]|simp -proj only[gf]|simp -proj only[h1]|simp -proj only[v2]|simp -proj only[v3]|simp -proj only[v4]|simp -proj only[jH]|simp -proj only[sh]|simp -proj only[u8]|simp -proj only[jP]|simp -proj only[av]|simp -proj only[nA]|simp -proj only[oc]|simp -proj only[fO]|simp -proj only[z2]|simp -proj only[z3]|simp -proj only[f3]|simp -proj only[lz]|simp -proj only[bF]|simp -proj only[aDj]|simp -proj only[vK]|simp -proj only[xS]|simp -proj only[nF]|simp -proj only[v5]|simp -proj only[cE]|simp -proj only[JX]|simp -proj only[g0]|simp -proj only[fG]|simp -proj only[ei]|simp -proj only[gF]|simp -proj only[alP]|simp -proj only[ij]|simp -proj only[m1]|simp -proj only[m2]|simp -proj only[tK]|simp -proj only[K6]|simp -proj only[aj]|simp -proj only[aF]|simp -proj only[aZ]|simp -proj only[g4]|simp -proj only[jn]|simp -proj only[qL]|simp -proj only[sd]|simp -proj only[n7]|simp -proj only[vg]|simp -proj only[uj]|simp -proj only[pJ]);exact F9)|exact jG.rfl):jG q p:=h
theorem alN{q:Prop}{f:Nat}{dN:List ah}{s:aU}{r:ah}{t:aU}{K:ah->aU->Prop}(h:bG P gl f dN s r t:=by assumption)(k:jG q (K r t):=by exact F9):jG q (∃r s2,bG P gl f dN s r s2/\K r s2):=λx=>⟨r,t,h,k x⟩
theorem alO{q a b:Prop}(h:a:=by first|assumption|(simp only[aJ ae,aAc,aAi,aAb,aAu,aA6,aAA,aCn,true_and,aAh];omega))(k:jG q b:=by exact F9):jG q (a/\b):=λx=>⟨h,k x⟩
theorem af{p q:Prop}(k:q)(h:jG q p:=by exact F9):p:=h k
theorem F'{q p:Prop}(h:jG q p:=by(conv=>arg 2;whnf);first|(show jG _ (_=true/\_);exact alQ)|(show jG _ (cond _ _ _);exact alR)|exact jG.rfl):jG q p:=h
theorem alQ{q a:Prop}{b:Bool}(h:b=true:=by kernel_rfl)(k:jG q a:=by exact F'):jG q (b=true/\a):=λx=>⟨h,k x⟩
theorem alR{q A B:Prop}{b c:Bool}(h:b=c:=by first|assumption|exact S1 ax9)(k:jG q (cond c A B):=by exact F'):jG q (cond b A B):=λx=>h▸k x
theorem bj{p q:Prop}(k:q)(h:jG q p:=by exact F'):p:=h k
theorem cm{P:Program}{gl:Nat->List D}{f:Nat}{dN CC:List ah}{s s':aU}{r:ah}{t:aU}{K:ah->aU->Prop}{q:Prop}(h:bG P gl f dN s r t)(k:q)(h1:CC=dN:=by kernel_rfl)(sh:s'=s:=by kernel_rfl)(aq:jG q (K r t):=by exact F'):∃r s2,bG P gl f CC s' r s2/\K r s2:=by
 subst h1;subst sh;exact⟨r,t,h,aq k⟩
theorem gZ{α:Type}{R:α->ah}{S:α->aU}{f:Nat}{dN:List ah}{s:aU}(h:∃r s',(∃x,r=R x/\s'=S x)/\bG P gl f dN s r s'):∃x,bG P gl f dN s (R x) (S x):=by
 obtain⟨_,_,⟨x,rfl,rfl⟩,h⟩:=h;exact⟨x,h⟩
theorem fK{α:Type}{Q:α->Prop}{R:α->ah}{S:α->aU}{f:Nat}{dN:List ah}{s:aU}(h:∃r s',(∃x,Q x/\r=R x/\s'=S x)/\bG P gl f dN s r s'):∃x,Q x/\bG P gl f dN s (R x) (S x):=by
 obtain⟨_,_,⟨x,h1,rfl,rfl⟩,h⟩:=h;exact⟨x,h1,h⟩
theorem uk{α β:Type}{R:α->β->ah}{S:α->β->aU}{f:Nat}{dN:List ah}{s:aU}(h:∃r s',(∃x y,r=R x y/\s'=S x y)/\bG P gl f dN s r s'):∃x y,bG P gl f dN s (R x y) (S x y):=by
 obtain⟨_,_,⟨x,y,rfl,rfl⟩,h⟩:=h;exact⟨x,y,h⟩
theorem K7{α β:Type}{Q:α->β->Prop}{R:α->β->ah}{S:α->β->aU}{f:Nat}{dN:List ah}{s:aU}(h:∃r s',(∃x y,Q x y/\r=R x y/\s'=S x y)/\bG P gl f dN s r s'):∃x y,Q x y/\bG P gl f dN s (R x y) (S x y):=by
 obtain⟨_,_,⟨x,y,h1,rfl,rfl⟩,h⟩:=h;exact⟨x,y,h1,h⟩
theorem K8{α β CP:Type}{Q:α->β->CP->Prop}{R:α->β->CP->ah}{S:α->β->CP->aU}{f:Nat}{dN:List ah}{s:aU}(h:∃r s',(∃x y z,Q x y z/\r=R x y z/\s'=S x y z)/\bG P gl f dN s r s'):∃x y z,Q x y z/\bG P gl f dN s (R x y z) (S x y z):=by
 obtain⟨_,_,⟨x,y,z,h1,rfl,rfl⟩,h⟩:=h;exact⟨x,y,z,h1,h⟩
theorem fixF{α:Type}{S:α->ag}{J:α->Prop}{sC:α->Nat}{n:Nat}{st:ag}(b:α)(au:J b)(he:st=S b:=by kernel_rfl)(hm:sC b<n:=by first|omega|(dsimp only;omega)):∃m,m<n/\bX S J sC m st:=⟨_,hm,b,au,rfl,he⟩
end
end Go.aH
