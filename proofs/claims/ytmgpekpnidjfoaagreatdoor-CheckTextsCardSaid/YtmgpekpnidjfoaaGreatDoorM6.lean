/- Part of texts_said. -/
import Derived.Test.YtmgpekpnidjfoaaGreatDoorM5
import Derived.Deep.DeepLaidRun
import Derived.SevenTiedAt
import Derived.Lib.AppendIntMem
import Derived.Lib.AppendZerosOnto
set_option linter.defProp false
set_option maxRecDepth 100000
set_option maxHeartbeats 8000000
set_option linter.unusedSimpArgs false
set_option linter.unusedVariables false
namespace Go.aJ
variable {p:Prop}
def aBq:=@Option.some.inj
def B2(x:Lit×DataW Unit):Option (List UInt8×D):=match x with
 |(.string b,.lit (.int k z))=>some (b,.int k z)
 |_=>none
def w4:List (List UInt8)->Bool
 |[]=>true
 |a::l=>!l.contains a&&w4 l
def B3(P:Program):Nat->Nat->DataW Unit->Option (List D)
 |0,_,_=>none
 |n+1,t,d=>match P.underlying t,d with
  |some (.int _),.lit (.int k z)=>some [.int k z]
  |some .string,.lit (.string b)=>some [.str b]
  |some (.array m e),.agg ps=>cond (Nat.beq (P.cellsOf t) (m*P.cellsOf e)) ((ps.mapM (B3 P n e)).bind λl=>cond (l.all λx=>Nat.beq x.length (P.cellsOf e)) (some l.flatten) none) none
  |some (.interface _),.iface _ _=>some [.hL]
  |some (.map k e),.map es=>match P.underlying k,P.underlying e with
   |some .string,some (.int _)=>(es.mapM B2).bind λl=>cond (w4 (l.map (·.1))) (some [.k6 (l.map λx=>.str x.1) (l.map (·.2))]) none
   |_,_=>none
  |_,_=>none
abbrev B4(l:List (List UInt8×D)):List (D×ag):=x9 (l.map λx=>.str x.1) (l.map (·.2))
theorem R8(x:List UInt8×D)(l:List (List UInt8×D)):B4 (x::l)=(.str x.1,.d x.2)::B4 l:=rfl
theorem ajK(ah:Bool)(lJ:List Nat)(k:D):(∀s,cond (ft ah (.str s)) (cF lJ k.cells [.str s]) none=none)\/∃fv,∀s,ft ah (.str s)=true/\cF lJ k.cells [.str s]=some (decide (fv=s)):=by
 cases ah with
 |true=>exact .inl λs=>rfl
 |false=>
  match lJ,k.cells with
  |[],[]=>exact .inl λs=>rfl
  |[],_::_=>exact .inl λs=>rfl
  |_::_,[]=>grind[cF]
  |[2],[.str p]=>exact .inr ⟨p,λs=>⟨rfl,by simp[cF]⟩⟩
  |[2],.str p::a::l=>grind[cF]
  |2::a::l,.str p::m=>grind[cF]
  |0::l,a::m=>grind[cF]
  |1::l,a::m=>grind[cF]
  |(n+3)::l,a::m=>simp_all[cF]
  |2::l,.bool _::m|2::l,.int _ _::m|2::l,.list _ _::m|2::l,.agg _::m|2::l,.dO::m|2::l,.hj::m|2::l,.k5::m|2::l,.ig::m|2::l,.fn _::m|2::l,.eY _ _::m|2::l,.iface _ _::m
  |2::l,.k6 _ _::m|2::l,.hL::m=>grind[cF]
theorem ajL{ah:Bool}{lJ:List Nat}{k:D}(h:∀s,cond (ft ah (.str s)) (cF lJ k.cells [.str s]) none=none)(x:List UInt8×D)(l:List (List UInt8×D))(i:Nat):fu ah lJ k (B4 (x::l)) i=none:=by
 rw[R8];have:=h x.1;simp[fu];cases aq:ft ah (.str x.1)with
 |false=>rfl
 |true=>
  rw[aq]at this;have ay:(D.str x.1).cells=[.str x.1]:=rfl;simp_all
theorem J8{ah:Bool}{lJ:List Nat}{k:D}{fv:List UInt8}(h:∀s,ft ah (.str s)=true/\cF lJ k.cells [.str s]=some (decide (fv=s))):∀(l:List (List UInt8×D)) (i:Nat),
  (fu ah lJ k (B4 l) i=some none/\∀x,x∈l->x.1≠fv)\/∃j x,fu ah lJ k (B4 l) i=some (some (i+j))/\l[j]?=some x/\x.1=fv
 |[],i=>.inl ⟨rfl,axt⟩
 |x::l,i=>by
  rw[R8];obtain⟨h1,h2⟩:=h x.1;have ay:(D.str x.1).cells=[.str x.1]:=rfl;simp only[fu,h1,azL,ay,h2];by_cases ak:fv=x.1
  .simp only[ak,decide_true];exact .inr ⟨0,x,rfl,rfl,rfl⟩
  .rcases J8 h l (i+1)with⟨aj,aD⟩|⟨j,y,aj,aD,aW⟩
   .grind
   .exact .inr ⟨j+1,y,axv,axu,aW⟩
theorem R9:∀{l:List (List UInt8×D)},w4 (l.map (·.1))=true->∀{x y:List UInt8×D},x∈l->y∈l->x.1=y.1->x=y
 |[],_,x,y,ak,_,_=>axu
 |a::l,h,x,y,ak,hy,e=>by
  simp[aAh,w4,azH,az8]at h;have ajM:∀z,z∈l->z.1≠a.1:=λz aQ he=>axv;rcases azY.1 ak with ak|ak<;>rcases azY.1 hy with hy|hy
  .simp_all
  .simp_all
  .simp_all
  .exact R9 h.2 ak hy e
theorem ajN{l m:List (List UInt8×D)}(hp:∀x,x∈m↔x∈l)(az:w4 (l.map (·.1))=true):Hb (m.map λx=>.str x.1) (m.map (·.2)) (l.map λx=>.str x.1) (l.map (·.2)):=by
 intro ah lJ k;rcases ajK ah lJ k with h|⟨fv,h⟩
 .cases l with
  |nil=>
   have:m=[]:=List.eq_nil_iff_forall_not_mem.2 λx ak=>axu;simp_all
  |cons x l=>
   grind[ajL]
 .have aH:=J8 h l 0;have hm:=J8 h m 0;refine⟨λcG=> ?_,λj d aL a6=> ?_⟩
  .grind
  .rcases aH with⟨aj,_⟩|⟨ki,x,aj,aD,aW⟩
   .simp_all
   .rw[aL]at aj;simp at aj;subst aj;rw[aAK,aD]at a6;have J9:=(hp x).2 (aAe aD);rcases hm with⟨_,bQ⟩|⟨ajO,y,bQ,cK,dQ⟩
    .simp_all
    .refine⟨ajO,axu,?_⟩;have:=R9 az ((hp y).1 (aAe cK)) (aAe aD) axu;simp_all
theorem Sb{H:Type}(x:Lit×DataW H):∀(l:List (Lit×DataW H)) (y:Lit×DataW H),y∈DataW.insert x l↔y=x\/y∈l
 |[],y=>by simp[DataW.insert]
 |z::l,y=>by
  simp[DataW.insert];split
  .simp
  .simp[azY,Sb x l y];constructor
   .rintro(h|h|h)<;>simp[h]
   .rintro(h|h|h)<;>simp[h]
theorem J'{H:Type}:∀(l:List (Lit×DataW H)) (y:Lit×DataW H),y∈l.foldr DataW.insert []↔y∈l
 |[],y=>axt
 |x::l,y=>by rw[List.foldr_cons,Sb,J' l y];simp
def w5(x:Lit×DataW Unit):List UInt8×D:=match x with
 |(.string b,.lit (.int k z))=>(b,.int k z)
 |_=>([],.dO)
theorem ajP{x:Lit×DataW Unit}{y:List UInt8×D}(h:B2 x=some y):w5 x=y:=by
 unfold B2 at h;grind[w5]
theorem Sc:∀{l:List (Lit×DataW Unit)} {r:List (List UInt8×D)},l.mapM B2=some r->l.map w5=r
 |[],r,h=>axu
 |x::l,r,h=>by
  simp only[aBL,aAB,azV,aB6,azJ]at h;obtain⟨b,aq,fJ,gO,rfl⟩:=h;rw[aAh,ajP aq,Sc gO]
section
variable {P:Program}{W:World}
theorem ajQ{k:Nat}{v:Value}{key:Lit}(au:P.underlying k=some .string)(h:keyOf P k v=some key):∃s:ByteArray,v=.string s/\key=.string s.data.toList:=by
 unfold keyOf at h;cases v<;>simp[mapKey,au]at h;simp_all
theorem ajR{e:Nat}{v:Value}{hk k:IntKind}{n:Int}(he:P.underlying e=some (.int hk))(bm:v.formed P e=true)(ay:v.cells.toList=[.int k n]):v=.int k n:=by
 cases v<;>simp_all[Value.formed,Value.cells]
theorem ajS{k e b fuel:Nat}{hk:IntKind}{enc:TypeId×Value->Unit}{sp:Nat->Bool}{es:List (Lit×DataW Unit)}{ps:List MemPlace}{l:List (List UInt8×D)}(au:P.underlying k=some .string)(he:P.underlying e=some (.int hk)){E:Array MapEntry}{clock:Nat}
  (aq:W.heap[b]?=some (.map E clock))
  (h1:((E.toList.mapM λx=>(keyOf P k x.key).bind λkey=>if x.val.formed P e then(DataW.trod enc P W 0 sp false fuel e x.val.cells.toList).map λy=>((key,y.1),y.2)else none).bind λentries=>
   let sorted:=(entries.map (·.1)).foldr DataW.insert [];if DataW.rising sorted then some (DataW.map sorted,MemPlace.map b::entries.flatMap (·.2))else none)=some (.map es,ps))
  (aH:es.mapM B2=some l) (az:w4 (l.map (·.1))=true):Rd W G0 (.map (some b)) (.k6 (l.map λx=>.str x.1) (l.map (·.2))):=by
 obtain⟨entries,hm,h2⟩:=azV.1 h1;simp only at h2;split at h2
 .simp at h2;have JE:=Lib.mapM_length hm;have key:∀(j:Nat) (x:MapEntry),E.toList[j]?=some x->∃(s:ByteArray) (q:IntKind) (n:Int),x.key=.string s/\x.val=.int q n/\((entries.map (·.1)).map w5)[j]?=some (s.data.toList,.int q n):=by
   intro j x ak;obtain⟨y,Fc,B5⟩:=Lib.mapM_at hm j x ak;obtain⟨auH,ajT,Sd⟩:=azV.1 B5;obtain⟨s,A5,rfl⟩:=ajQ au ajT;split at Sd
   .rename_i bm;obtain⟨z,rC,rfl⟩:=aAt.1 Sd;grind[DataW.trod_int,ajR,w5]
   simp_all
  have A3:Hb (((entries.map (·.1)).map w5).map λx=>.str x.1) (((entries.map (·.1)).map w5).map (·.2)) (l.map λx=>.str x.1) (l.map (·.2)):=by
   refine ajN (λx=> ?_) az;rw[<-Sc aH,<-h2.1];simp only[aAn];constructor
   .rintro⟨y,⟨z,aQ,rfl⟩,rfl⟩;exact⟨z.1,(J' _ _).2 (aCw aQ),rfl⟩
   .rintro⟨y,hy,rfl⟩;have:=(J' _ _).1 hy;grind
  refine .k6 b (E.toList.map (·.key)) (E.toList.map (·.val)) _ _ _ _ ⟨E,clock,⟨rfl,rfl,aq⟩,rfl,rfl⟩ (.mk axu λj v x hv ak=> ?_) (.mk axu λj v x hv ak=> ?_) A3
  .rw[aAK,aAt]at hv ak;obtain⟨y,hy,rfl⟩:=hv;obtain⟨z,aQ,rfl⟩:=ak;obtain⟨s,q,n,aj,aD,aW⟩:=key j y hy;rw[aQ]at aW;obtain rfl:=aBq aW;rw[aj];exact .str _ _ rfl
  .rw[aAK,aAt]at hv ak;obtain⟨y,hy,rfl⟩:=hv;obtain⟨z,aQ,rfl⟩:=ak;obtain⟨s,q,n,aj,aD,aW⟩:=key j y hy;rw[aQ]at aW;obtain rfl:=aBq aW;rw[aD];exact .int _ _
 simp_all
theorem Se(sz:Nat):∀(l:List (List D)) (cs:List Value),cs.length=l.length*sz->(∀x,x∈l->x.length=sz)->(∀(i:Nat) x,l[i]?=some x->cn W G0 ((cs.drop (i*sz)).take sz) x/\∀v,v∈(cs.drop (i*sz)).take sz->v.oneCell'=true)->cn W G0 cs l.flatten/\∀v,v∈cs->v.oneCell'=true
 |[],cs,h,_,_=>by
  have:cs=[]:=axu;subst this;exact⟨.nil,axt⟩
 |x::l,cs,h,ak,aw=>by
  have h0:=aw 0 x rfl;simp at h0;have aH:(cs.drop sz).length=l.length*sz:=by
   grind[Nat.add_mul]
  have ih:=Se sz l (cs.drop sz) aH (λy hy=>ak y axv) (λi y hy=>by
   have:=aw (i+1) y axu;simp_all[aAD,Nat.add_comm])
  have gQ:=(aCt sz cs).symm;refine⟨?_,λv hv=> ?_⟩
  .rw[gQ];exact h0.1.append ih.1
  grind
theorem ajU{enc:TypeId×Value->Unit}{sp:Nat->Bool}:∀(n fuel t:Nat) (cs:List Value) (d:DataW Unit) (ps:List MemPlace) (ds:List D),
  DataW.trod enc P W 0 sp false fuel t cs=some (d,ps)->B3 P n t d=some ds->cn W G0 cs ds/\∀v,v∈cs->v.oneCell'=true:=by
 intro n;induction n with
 |zero=>simp_all[B3]
 |succ n ih=>
  intro fuel t cs d ps ds h1 h2;cases fuel with
  |zero=>simp_all[DataW.trod]
  |succ fuel=>
   simp[B3]at h2;split at h2
   .rename_i jd k z hu;obtain⟨m,rfl,he,_⟩:=DataW.trod_int hu h1;obtain⟨⟨rfl,rfl⟩,_⟩:=he;simp at h2;subst h2;exact⟨.cons _ _ _ _ (.int _ _) .nil,axQ⟩
   .rename_i b hu;obtain⟨m,rfl,he,_⟩:=aCv hu h1;obtain⟨rfl,_⟩:=he;simp at h2;subst h2;exact⟨.cons _ _ _ _ (.str _ _ rfl) .nil,axQ⟩
   .rename_i m e pl hu;cases aq:Nat.beq (P.cellsOf t) (m*P.cellsOf e)with
    |false=>simp_all
    |true=>
     rw[aq]at h2;have aq:=azR aq;simp[azL,azV]at h2;obtain⟨l,aH,h2⟩:=h2;cases gP:(l.all λx=>Nat.beq x.length (P.cellsOf e))with
     |false=>simp_all
     |true=>
      rw[gP]at h2;simp at h2;subst h2;simp only[DataW.trod,hu]at h1;split at h1
      .rename_i ix;obtain⟨xs,hm,ak⟩:=aAt.1 h1;have lM:xs.map (·.1)=pl:=axu;have qt:=by simpa using Lib.mapM_length hm
       have o8:l.length=m:=by grind[Lib.mapM_length]
       refine Se (P.cellsOf e) l cs axu (λx ak=>azR (azX.1 gP x ak)) (λi x hi=> ?_);have mV:i<m:=axv;obtain⟨b,gZ,dP⟩:=Lib.mapM_at hm i i axu;have ajV:pl[i]?=some b.1:=axv;obtain⟨y,Fc,B5⟩:=Lib.mapM_at aH i b.1 ajV;grind
      simp_all
   .rename_i ms nm y hu;simp at h2;subst h2;unfold DataW.trod at h1;split at h1<;>simp_all;exact⟨.cons _ _ _ _ (.hL _ _) .nil,axQ⟩
   .rename_i k e es hu;split at h2
    .rename_i au he;simp[azV]at h2;obtain⟨l,aH,h2⟩:=h2;cases az:w4 (l.map (·.1))with
     |false=>simp_all
     |true=>
      rw[az]at h2;simp at h2;subst h2;unfold DataW.trod at h1;rw[hu]at h1;split at h1;all_goals first
       |(rename_i hh;simp at hh;done)
       |(rename_i hh _;done)
       |(simp at h1)
       |skip
      rename_i Hp;obtain⟨rfl,rfl⟩:=Hp;split at h1
      .rename_i E clock aq;split at h1
       .exact⟨.cons _ _ _ _ (ajS au he aq h1 aH az) .nil,axQ⟩
       simp_all
      simp_all
    simp_all
   simp_all
theorem Sf{W:World}:∀{l:List (String×DataW Unit)} {ps:List MemPlace},DataW.LaidVars P W l ps->∀{nm:String} {d:DataW Unit},(nm,d)∈l->
  ∃g t cs fuel p,P.globalNamed nm=some g/\(P.globals[g]?).map (·.type)=some t/\W.var? P nm=some cs/\DataW.trod (λ_=>()) P W 0 (λ_=>true) false fuel t cs.toList=some (d,p)
 |[],_,_,_,_,h=>axv
 |(n,d0)::r,ps,aH,nm,d,h=>by
  obtain⟨g,t,cs,fuel,p,q,aj,aD,aW,bQ,cK,_⟩:=aH;rcases azY.1 h with h|h
  .grind
  .exact Sf cK h
theorem tE{W:World}{l:List (String×DataW Unit)}{ps:List MemPlace}(h:DataW.LaidVars P W l ps){nm:String}{d:DataW Unit}(a6:(nm,d)∈l){g t n:Nat}{ds:List D}(aE:P.globalNamed nm=some g)(aC:(P.globals[g]?).map (·.type)=some t)(aH:B3 P n t d=some ds):
  ∃vs,iK W G0 g 0 vs/\cn W G0 vs ds/\(ds.length=0\/∃c E fz,x8 W G0 g (.cells c E fz)/\c.size=ds.length):=by
 obtain⟨nN,ek,cs,fuel,p,aj,aD,aW,bQ⟩:=Sf h a6;obtain rfl:=aBq (aE.symm.trans aj);obtain rfl:=aBq (aC.symm.trans aD);obtain⟨bU,b4⟩:=ajU n fuel t cs.toList d p ds bQ aH;refine⟨cs.toList,λj v hv=> ?_,bU,.inr ?_⟩;rotate_left
 .have B6:=aW;unfold World.var? at B6;rw[aE]at B6;simp at B6;split at B6
  .rename_i c E fz aq;refine⟨c,E,fz,⟨rfl,rfl,aq⟩,?_⟩;have:=aBq B6;subst this;have:=bU.length;omega
  simp_all
 have aL:j<cs.size:=axv;refine⟨?_,λL n h=>by grind[G0],b4 v (List.mem_of_getElem? hv)⟩;have:=World.var?_cell aE aW j;simp_all
end
mutual
def oC:DataW Unit->List Value
 |.lit (.int k n)=>[.int k n]
 |.lit (.string b)=>[.string ⟨b.toArray⟩]
 |.agg ps=>Sg ps
 |_=>[]
def Sg:List (DataW Unit)->List Value
 |[]=>[]
 |d::l=>oC d++Sg l
end
def ajW:DataW Unit->Array MapEntry
 |.map es=>(es.zipIdx.map λx=>⟨(oC (.lit x.1.1)).headD .nilIface,(oC x.1.2).headD .nilIface,x.2⟩).toArray
 |_=> #[]
def oD(h:Array Obj)(g:Nat)(vs:List Value):Array Obj:=h.modify g λ
 |.cells _ t f=>.cells vs.toArray t f
 |o=>o
theorem ajX(P:Program)(c:OpenClaim)(hs:c.start=.entering)(h:∀f,P.goes f=false):false=c.goesBy P:=by
 unfold OpenClaim.goesBy Program.goesAt Program.goesFrom;rw[hs];cases P.funcNamed c.func with
 |none=>rfl
 |some f=>grind
theorem ajY(P:Program)(Sh:(P.funcs.any Func.goes)=false)(f:FuncId):P.goes f=false:=by
 unfold Program.goes;grind
def lt:List (Nat×ag)->Nat->ag
 |[]=>λ_=>.undef
 |(k,v)::l=>cW (lt l) k v
def fO:List (Nat×List ag)->Nat->Option (List ag)
 |[]=>λ_=>none
 |(k,v)::l=>cW (fO l) k (some v)
def cA(l:List (Nat×ag))(s:aV):af:=⟨lt l,λ_=>none,s⟩
def pD(l:List (Nat×ag))(b:List (Nat×List ag))(s:aV):af:=⟨lt l,fO b,s⟩
theorem auI{P:Program}{gl:Nat->List D}{α:Type}{f:Nat}{cO:aX}{dL:List ag}(mk:α->ag)(p:α->Prop)(h:a7 P f cO)(aw:lH (fK P gl) gl cO dL [] λr s'=>(∃x,p x/\r=mk x)/\s'=[]):∃x,p x/\bM P gl f dL [] (mk x) []:=by
 grind[a7.ext]
theorem kV{b:Bool}{A B:Prop}(h:b=true)(br:A):cond b A B:=axu
theorem Ka{b:Bool}{A B:Prop}(h:b=false)(aq:B):cond b A B:=axu
theorem ajZ{b:Bool}{A B:Prop}(h:b=false)(br:A):cond (!b) A B:=axu
theorem aj0{b:Bool}{A B:Prop}(h:b=true)(aq:B):cond (!b) A B:=axu
theorem eJ{b:Bool}{A B:Prop}(h1:b=true->B)(h2:b=false->A):cond (cond false b (!b)) A B:=axu
theorem Si{b:Bool}{A B:Prop}(h1:b=true->A)(h2:b=false->B):cond (cond true b (!b)) A B:=axu
theorem auJ{b:Bool}{q:Prop}(h:b=true)(aT:q):b=true/\q:=⟨h,aT⟩
theorem eE{b:Bool}{A B:Prop}(h1:b=true->A)(h2:b=false->B):cond b A B:=axu
theorem Sj{b:Bool}{A B:Prop}(h1:b=false->A)(h2:b=true->B):cond (!b) A B:=axu
theorem Sk{b c:Bool}(h:b=c):(!b)=!c:=h▸rfl
theorem e2{b c:Bool}{A B:Prop}(k:cond c A B)(h:b=c:=by first|assumption|exact Sk axG):cond b A B:=axu
theorem auK{b:Bool}{q:Prop}(aT:q)(h:b=true:=by kernel_rfl):b=true/\q:=⟨h,aT⟩
theorem e3{b:Bool}{q:Prop}(aT:q)(h:b=true:=by rfl):b=true/\q:=⟨h,aT⟩
theorem Kb{P:Program}{gl:Nat->List D}{f:Nat}{dL B7:List ag}{s s':aV}{r:ag}{t:aV}{K:ag->aV->Prop}(h:bM P gl f dL s r t)(h1:B7=dL)(h2:s'=s)(au:K r t):∃r s2,bM P gl f B7 s' r s2/\K r s2:=axv
theorem Fe{P:Program}{gl:Nat->List D}{call:Nat->List ag->aV->Out}{f:Nat}{g:UInt8->Bool}(ay:gT P gl call)
  (h:((List.range 256).all λn=>match call f [.d (.int .u8 n)] []with|some (.d (.bool b),[])=>b==g (UInt8.ofNat n)|_=>false)=true) (c:UInt8):bM P gl f [.d (gj c)] [] (.d (.bool (g c))) []:=by
 have:=azX.1 h c.toNat (aAH.2 c.toNat_lt);split at this
 .rename_i b aq;have JQ:b=g (UInt8.ofNat c.toNat):=axu;rw[UInt8.ofNat_toNat]at JQ;subst JQ;exact ay _ _ _ _ _ aq
 simp_all
def azK:=@Eq.trans
def aCd:=@Nat.zero_lt_succ
def aCA:=@Nat.succ_lt_succ
def azM:=@Int.ofNat_eq_natCast
theorem ay3(h:p:=by refine nU _ ?_;rfl):p:=h
structure bn where
 io:BinOp->IntKind->Int->Int->Int
 aF:BinOp->Int->Int->Bool
 wr:IntKind->Int->Int
 len:List D->Nat
 get:List D->Int->D
 app:List D->List D->List D
 sub:List D->Int->Int->List D
 gap:Nat->Nat->Nat->Nat->Nat->Nat->Bool
 Ff:Nat->Nat->Nat->Int->Nat->Nat->Bool->Bool
 ez:Nat->Nat->Int->Nat->Bool
 Fg:Int->Nat->Bool
 oE:Int->Int->Nat->Bool
 eu:List UInt8->Nat
 B8:List UInt8->Int->UInt8
 cR:List UInt8->List UInt8->List UInt8
 iB:List UInt8->Int->Int->List UInt8
 bw:BinOp->List UInt8->List UInt8->Bool
 fG:List UInt8->List UInt8->Bool
 h3:List UInt8->List D
 oF:List Nat->List D->List D->Option Bool
 look:Bool->List Nat->D->List D->List D->Option (Option D)
 lW:Nat->Int->Nat->Nat
 ic:Nat->Nat->List ag->Bool->Bool
 mB:Bool->Nat->Nat->List ag->Bool->Bool
 zg:Nat->List ag->Bool
 zh:Bool->Nat->Nat->Nat->List ag->Bool
 u2:Int->Int->Bool
 pE:Bool->Int->Int->Int->Nat->Bool
 j4:List ag->Nat->ag
 B9:List ag->Nat->ag
 pF:List ag->Nat->Nat->ag
 ln:List ag->Nat->List ag->Option (List ag)
 B':List ag->Nat->Option (List ag)
 zi:List ag->Nat->Nat->List ag->Option (List ag)
 w6:Nat->List ag->Option (List ag)
 ns:Int->Int->Nat
 zj:List fb->List fb->Option (List fb)
 lp:Nat->Nat->Nat
 zk:Nat->Nat->Nat->Nat->Nat->Bool
 w7:List fb->Option (List ag)
 Ca:Nat->Nat->Nat->Nat->List ag->Option D
 Kc:Bool->Int->List D->Bool
 Cb:Nat->List D->Int->ag
 w8:b3->List Nat
 w9:(Nat->Nat)->b3->b3
 xa:Nat->b3->Bool
 zl:Bool->List Nat->D->List (D×ag)->Option (Option ag)
 zm:Bool->List Nat->D->ag->List (D×ag)->Option (List (D×ag))
def Kd{R:Type}(v:ag)(K:ag->R):R:=match v with
 |.d x=>K (.d x)
 |v=>K v
theorem Sl{R:Type}(v:ag)(K:ag->R):Kd v K=K v:=by cases v<;>rfl
def u3{α R:Type}(A:mc R)(o:Option α)(K:α->R):R:=match o with
 |some x=>K x
 |none=>A.fail
def aj1{R:Type}(A:mc R)(b:Bool)(x:Unit->R):R:=match b with
 |true=>x ()
 |false=>A.fail
def Sm{R:Type}(l:List Nat)(K:List Nat->R):R:=match l with
 |[]=>K []
 |i::t=>K (i::t)
theorem aj2{R:Type}(l:List Nat)(K:List Nat->R):Sm l K=K l:=by cases l<;>rfl
def j5{R:Type}(b:Bool)(x y:Unit->R):R:=match b with
 |true=>x ()
 |false=>y ()
theorem Sn{R:Type}(b:Bool)(x y:Unit->R):j5 b x y=cond b (x ()) (y ()):=by cases b<;>rfl
theorem nU{α:Type}(b:Bool){x y:Unit->α}(h:x ()=y ()):j5 b x y=y ():=by
 cases b
 .rfl
 .exact h
def u4(ah:Bool)(ks:List Nat)(k:D)(es:List (D×ag)):Option (Option ag):=
 match fu ah ks k es 0 with
 |some none=>some none
 |some (some j)=>match es[j]? with
  |some e=>some (some e.2)
  |none=>none
 |none=>none
def tF(ah:Bool)(ks:List Nat)(k:D)(x:ag)(es:List (D×ag)):Option (List (D×ag)):=
 match fu ah ks k es 0 with
 |some j=>some (nD es k x j)
 |none=>none
def Cc(ah:Bool)(ks:List Nat)(k:D)(kl vl:List D):Option (Option D):=
 match fu ah ks k ((kl.zip vl).map λe=>(e.1,.d e.2)) 0 with
 |some none=>some none
 |some (some j)=>match vl[j]? with
  |some v=>some (some v)
  |none=>none
 |none=>none
def bn.bY:bn where
 io op k a b:=match op with
  |.add=>k.wrap (a+b)
  |.sub=>k.wrap (a-b)
  |.mul=>k.wrap (a*b)
  |.quo=>k.wrap (a.tdiv b)
  |.rem=>a.tmod b
  |.and=>k.wrap (BitVec.ofInt k.bits a&&& BitVec.ofInt k.bits b).toNat
  |.or=>k.wrap (BitVec.ofInt k.bits a|||BitVec.ofInt k.bits b).toNat
  |.xor=>k.wrap (BitVec.ofInt k.bits a^^^BitVec.ofInt k.bits b).toNat
  |.andNot=>k.wrap (BitVec.ofInt k.bits a&&& ~~~ BitVec.ofInt k.bits b).toNat
  |.shl=>k.wrap (a*2^(min b.toNat k.bits))
  |.shr=>a.fdiv (2^(min b.toNat k.bits))
  |_=>0
 aF op a b:=match op with
  |.eql=>decide (a=b)
  |.neq=>!decide (a=b)
  |.lss=>decide (a<b)
  |.leq=>decide (a<=b)
  |.gtr=>decide (b<a)
  |_=>decide (b<=a)
 wr:=IntKind.wrap
 len:=List.length
 get l n:=l.getD n.toNat .dO
 app l m:=l++m
 sub l a b:=(l.drop a.toNat).take (b.toNat-a.toNat)
 gap a b c n m k:=Nat.beq a b&&Nat.beq c b&&Nat.ble (n+m) k
 Ff a b c i n k t:=Nat.beq a b&&Nat.beq c b&&decide (i=n)&&Nat.ble (n+1) k&&t
 ez a b n k:=Nat.beq a b&&decide (0<=n)&&decide (n<k)
 Fg n k:=decide (0<=n)&&decide (n<k)
 oE l h n:=decide (0<=l)&&decide (l<=h)&&decide (h<=n)
 eu:=List.length
 B8 s n:=s.getD n.toNat 0
 cR a b:=a++b
 iB s a b:=(s.drop a.toNat).take (b.toNat-a.toNat)
 bw op a b:=match op with
  |.eql=>decide (a=b)
  |.neq=>!decide (a=b)
  |.lss=>bytesLess a b
  |.leq=>bytesLess a b||decide (a=b)
  |.gtr=>!(bytesLess a b||decide (a=b))
  |_=>!bytesLess a b
 fG a b:=decide (a.length+b.length<=G2)
 h3 s:=s.map gj
 oF:=cF
 look:=Cc
 lW o n z:=o+n.toNat*z
 ic o n cs t:=Nat.ble (o+n) cs.length&&t
 mB t o n cs u:=t&&Nat.ble (o+n) cs.length&&u
 zg o cs:=Nat.blt o cs.length
 zh t o n z cs:=t&&Nat.ble (o+n*z) cs.length
 u2 n b:=decide (0<=n)&&decide (n<=b)
 pE t l h m c:=t&&decide (0<=l)&&decide (l<=h)&&decide (h<=m)&&decide (m<=c)
 j4 cs o:=snap (cs.getD o .undef)
 B9 cs o:=cs.getD o .undef
 pF cs o n:=cE (.agg ((cs.drop o).take n))
 ln cs o l:=some (putCells cs o l)
 B' cs o:=some (cs.set o .undef)
 zi cs o n z:=some (putCells cs o (List.replicate n z).flatten)
 w6 n z:=some (List.replicate n z).flatten
 ns a b:=a.toNat-b.toNat
 zj a b:=some (a++b)
 lp a b:=a+b
 zk a b n m k:=Nat.beq a b&&Nat.ble (n+m) k
 w7 cs:=some (ju cs)
 Ca off len cap sz bs:=cond (Nat.ble len cap&&Nat.blt 0 sz&&Nat.ble (off+len*sz) bs.length) (match jr ((bs.drop off).take (len*sz))with
  |some l=>cond (l.all jt) (some (.list sz (chunks sz len l))) none
  |none=>none) none
 Kc t n l:=t&&decide (0<=n)&&decide (n<=l.length)&&!l.isEmpty
 Cb sz l n:=ij sz (l.drop n.toNat)
 w8:=b3.refs
 w9:=b3.ren
 xa:=b3.fB
 zl:=u4
 zm:=tF
theorem Cd(a b:Nat):Nat.beq a b=decide (a=b):=by
 grind[Nat.eq_of_beq_eq_true,Nat.ne_of_beq_eq_false]
theorem zn(n m:Nat):Nat.ble n m=decide (n<=m):=by
 grind[Nat.le_of_ble_eq_true,Nat.ble_eq_true_of_le]
theorem aI{ad:bn}(h:ad=bn.bY):
  (∀k a b,ad.io .add k a b=k.wrap (a+b))/\(∀k a b,ad.io .sub k a b=k.wrap (a-b))/\(∀k a b,ad.io .mul k a b=k.wrap (a*b))/\(∀k a b,ad.io .quo k a b=k.wrap (a.tdiv b))/\(∀k a b,ad.io .rem k a b=a.tmod b)/\
  (∀a b,ad.aF .eql a b=decide (a=b))/\(∀a b,ad.aF .neq a b=!decide (a=b))/\(∀a b,ad.aF .lss a b=decide (a<b))/\(∀a b,ad.aF .leq a b=decide (a<=b))/\(∀a b,ad.aF .gtr a b=decide (b<a))/\(∀a b,ad.aF .geq a b=decide (b<=a))/\
  (∀k n,ad.wr k n=k.wrap n)/\(∀l,ad.len l=l.length)/\(∀l n,ad.get l n=l.getD n.toNat .dO)/\(∀l m,ad.app l m=l++m)/\(∀l a b,ad.sub l a b=(l.drop a.toNat).take (b.toNat-a.toNat))/\
  (∀a b c n m k,ad.gap a b c n m k=(decide (a=b)&&decide (c=b)&&decide (n+m<=k)))/\(∀a b c i n k t,ad.Ff a b c i n k t=(decide (a=b)&&decide (c=b)&&decide (i=n)&&decide (n+1<=k)&&t))/\(∀a b n k,ad.ez a b n k=(decide (a=b)&&decide (0<=n)&&decide (n<k)))/\(∀n k,ad.Fg n k=(decide (0<=n)&&decide (n<k)))/\(∀a b n,ad.oE a b n=(decide (0<=a)&&decide (a<=b)&&decide (b<=n)))/\
  (∀s,ad.eu s=s.length)/\(∀s n,ad.B8 s n=s.getD n.toNat 0)/\(∀a b,ad.cR a b=a++b)/\(∀s a b,ad.iB s a b=(s.drop a.toNat).take (b.toNat-a.toNat))/\
  (∀a b,ad.bw .eql a b=decide (a=b))/\(∀a b,ad.bw .neq a b=!decide (a=b))/\(∀a b,ad.fG a b=decide (a.length+b.length<=4611686018427387904))/\(∀s,ad.h3 s=s.map gj):=by
 subst h;refine⟨λ_ _ _=>rfl,λ_ _ _=>rfl,λ_ _ _=>rfl,λ_ _ _=>rfl,λ_ _ _=>rfl,λ_ _=>rfl,λ_ _=>rfl,λ_ _=>rfl,λ_ _=>rfl,λ_ _=>rfl,λ_ _=>rfl,λ_ _=>rfl,λ_=>rfl,λ_ _=>rfl,λ_ _=>rfl,λ_ _ _=>rfl,λa b c n m k=> ?_,λa b c i n k t=> ?_,λa b n k=> ?_,λ_ _=>rfl,λ_ _ _=>rfl,λ_=>rfl,λ_ _=>rfl,λ_ _=>rfl,λ_ _ _=>rfl,λ_ _=>rfl,λ_ _=>rfl,λ_ _=>rfl,λ_=>rfl⟩
 .rw[<-Cd,<-Cd,<-zn];rfl
 .rw[<-Cd,<-Cd,<-zn];rfl
 .rw[<-Cd];rfl
theorem aj3(n m:Nat):Nat.blt n m=decide (n<m):=zn _ _
theorem tG{ad:bn}(h:ad=bn.bY):
  (∀o n z,ad.lW o n z=o+n.toNat*z)/\(∀o n cs t,ad.ic o n cs t=(decide (o+n<=cs.length)&&t))/\(∀t o n cs u,ad.mB t o n cs u=(t&&decide (o+n<=cs.length)&&u))/\(∀o cs,ad.zg o cs=decide (o<cs.length))/\
  (∀t o n z cs,ad.zh t o n z cs=(t&&decide (o+n*z<=cs.length)))/\(∀n b,ad.u2 n b=(decide (0<=n)&&decide (n<=b)))/\(∀t l h m c,ad.pE t l h m c=(t&&decide (0<=l)&&decide (l<=h)&&decide (h<=m)&&decide (m<=(c:Int)))):=by
 subst h;refine⟨λ_ _ _=>rfl,λo n cs t=> ?_,λt o n cs u=> ?_,λo cs=> ?_,λt o n z cs=> ?_,λ_ _=>rfl,λ_ _ _ _ _=>rfl⟩
 .rw[<-zn];rfl
 .rw[<-zn];rfl
 .rw[<-aj3];rfl
 .rw[<-zn];rfl
def Flat(cs:List ag):Prop:=∀v∈cs,(∃x,v=.d x)\/∃z l,v=.own z l
def oG(es:List (D×ag)):Prop:=∀e∈es,∃x,e.2=.d x
theorem Flat.refs{ad:bn}(h:ad=bn.bY){cs:List ag}(ay:Flat cs):ad.w8 (.box cs)=[]:=by
 subst h;show cs.flatMap (aJ.refs depth)=[];rw[aBK];intro v hv;rcases ay v hv with⟨x,rfl⟩|⟨z,l,rfl⟩<;>rfl
theorem Flat.ren{ad:bn}(h:ad=bn.bY){cs:List ag}(ay:Flat cs)(f:Nat->Nat):ad.w9 f (.box cs)=.box cs:=by
 subst h;show b3.box (cs.map (aJ.ren f depth))=_;congr 1;refine(aB' λv hv=> ?_).trans (List.map_id cs);rcases ay v hv with⟨x,rfl⟩|⟨z,l,rfl⟩<;>rfl
theorem Flat.ok{ad:bn}(h:ad=bn.bY){cs:List ag}(ay:Flat cs)(n:Nat):ad.xa n (.box cs)=true:=by
 subst h;refine azX.2 λv hv=> ?_;rcases ay v hv with⟨x,rfl⟩|⟨z,l,rfl⟩<;>rfl
theorem oG.refs{ad:bn}(h:ad=bn.bY){es:List (D×ag)}(ay:oG es):ad.w8 (.map es)=[]:=by
 subst h;show es.flatMap (λe=>aJ.refs depth e.2)=[];rw[aBK];intro v hv;obtain⟨x,ak⟩:=ay v hv;rw[ak];rfl
theorem oG.ren{ad:bn}(h:ad=bn.bY){es:List (D×ag)}(ay:oG es)(f:Nat->Nat):ad.w9 f (.map es)=.map es:=by
 subst h;show b3.map (es.map λe=>(e.1,aJ.ren f depth e.2))=_;congr 1;refine(aB' λv hv=> ?_).trans (List.map_id es);obtain⟨x,ak⟩:=ay v hv;rw[ak];show(v.1,ag.d x)=v;grind
theorem oG.ok{ad:bn}(h:ad=bn.bY){es:List (D×ag)}(ay:oG es)(n:Nat):ad.xa n (.map es)=true:=by
 subst h;refine azX.2 λv hv=> ?_;obtain⟨x,ak⟩:=ay v hv;grind[aJ.fB]
section
variable (ad:bn)(ar:List Nat){R:Type}(A:mc R)(gl:Nat->List D)
def Sp(op:BinOp)(k:IntKind)(a b:Int):Option (Bool×D):=
 match op with
 |.add=>some (true,.int k (ad.io .add k a b))
 |.sub=>some (true,.int k (ad.io .sub k a b))
 |.mul=>some (true,.int k (ad.io .mul k a b))
 |.quo=>some (decide (b≠0),.int k (ad.io .quo k a b))
 |.rem=>some (decide (b≠0),.int k (ad.io .rem k a b))
 |.and=>some (true,.int k (ad.io .and k a b))
 |.or=>some (true,.int k (ad.io .or k a b))
 |.xor=>some (true,.int k (ad.io .xor k a b))
 |.andNot=>some (true,.int k (ad.io .andNot k a b))
 |.eql=>some (true,.bool (ad.aF .eql a b))
 |.neq=>some (true,.bool (ad.aF .neq a b))
 |.lss=>some (true,.bool (ad.aF .lss a b))
 |.leq=>some (true,.bool (ad.aF .leq a b))
 |.gtr=>some (true,.bool (ad.aF .gtr a b))
 |.geq=>some (true,.bool (ad.aF .geq a b))
 |_=>none
def Sq(op:BinOp)(k:IntKind)(a b:Int):Option D:=
 match op with
 |.shl=>some (.int k (ad.io .shl k a b))
 |.shr=>some (.int k (ad.io .shr k a b))
 |_=>none
def Sr(op:BinOp)(a b:List UInt8):Option (Bool×D):=
 match op with
 |.add=>some (ad.fG a b,.str (ad.cR a b))
 |.eql=>some (true,.bool (ad.bw .eql a b))
 |.neq=>some (true,.bool (ad.bw .neq a b))
 |.lss=>some (true,.bool (ad.bw .lss a b))
 |.leq=>some (true,.bool (ad.bw .leq a b))
 |.gtr=>some (true,.bool (ad.bw .gtr a b))
 |.geq=>some (true,.bool (ad.bw .geq a b))
 |_=>none
def aj4(o:Option Bool)(K:Bool->R):R:=match o with
 |some r=>K r
 |none=>A.fail
def Ke(i:Nat)(o:b3):List Nat:=j5 (dk i ar) (λ_=>ad.w8 o) (λ_=>o.refs)
def Kf(f:Nat->Nat)(i:Nat)(o:b3):b3:=j5 (dk i ar) (λ_=>ad.w9 f o) (λ_=>o.ren f)
def Ss(n i:Nat)(o:b3):Bool:=j5 (dk i ar) (λ_=>ad.xa n o) (λ_=>o.fB n)
def zo(s:aV):Nat->List Nat->List Nat->List Nat
 |0,_,acc=>acc
 |_+1,[],acc=>acc
 |n+1,i::todo,acc=>j5 (dk i acc) (λ_=>zo s n todo acc) (λ_=>zo s n (todo++Ke ad ar i (s.getD i .dead)) (acc++[i]))
def Kg(s:aV)(ids:List Nat)(args:List ag):Bool:=
 (args.flatMap (refs depth)).all (λi=>dk i ids)&&ids.all λi=>(Ke ad ar i (s.getD i .dead)).all λj=>dk j ids
def Fh(f:Nat->Nat):Nat->List b3->List b3
 |_,[]=>[]
 |p,o::l=>Kf ad ar f (f p) o::Fh f (p+1) l
def Ce(n:Nat):Nat->List b3->Bool
 |_,[]=>true
 |p,o::l=>Ss ad ar n p o&&Ce n (p+1) l
def Fi(f:Nat)(args:List ag)(s:aV)(K:ag->aV->R):R:=match ar with
 |[]=>kG A f args s K
 |_::_=>
  Sm (zo ad ar s (s.length+s.length+8) (args.flatMap (refs depth)) []) λids=>
  let nC:=λi=>k8 i ids;let k9:=back ids s.length;A.guard (G1 s.length ids&&nodupB ids&&Kg ad ar s ids args&&args.all (dU depth)) <|
  A.call f (args.map (ren nC depth)) (ids.map λi=>Kf ad ar nC i (s.getD i .dead)) λr s'=>
   A.guard (Nat.ble ids.length s'.length) <|
   K (ren k9 depth r) (merge s ids (Fh ad ar k9 0 s'))
def zp(n:Nat)(ts bs:List Nat)(st:af)(K:af->R):R:=match ar with
 |[]=>forget A n ts bs st K
 |_::_=>A.guard (keeps st.aP bs ts) (match ts.all (λt=>fB n depth (st.aP t))&&bs.all (okB n st.bI)with
  |true=>match Ce ad ar n 0 (st.s.take n)with
   |true=>K ⟨sC st.aP ts,sD st.bI bs,st.s.take n⟩
   |false=>K ⟨sC st.aP ts,sD st.bI bs,st.s⟩
  |false=>K ⟨sC st.aP ts,sD st.bI bs,st.s⟩)
def Kh(n:Nat)(r:ag)(s:aV)(K:ag->aV->R):R:=match ar with
 |[]=>K r (gc n r s)
 |_::_=>match fB n depth r with
  |true=>match Ce ad ar n 0 (s.take n)with
   |true=>K r (s.take n)
   |false=>K r s
  |false=>K r s
def St(s:aV)(i j:Nat):Option aV:=match s.getD i .dead with
 |.box cs=>match cs.getD j .undef with
  |.raw sz n us=>match ad.w7 us with
   |some vs=>some (s.set i (.box (cs.set j (.aS s.length 0 n n sz)))++[.box vs])
   |none=>none
  |_=>some s
 |_=>none
def Fj(i:Nat):aV->Nat->Nat->Option aV
 |s,_,0=>some s
 |s,j,n+1=>match St ad s i j with
  |some s'=>Fj i s' (j+1) n
  |none=>none
def Ki(d s:Nat)(x:O)(sz b2 ej n:Nat)(cs:List fb)(st:af)(K:af->R):R:=match p5 st (aK gl st x) sz with
 |some (us,k)=>match ug us with
  |some gA=>A.guard (ad.zk ej sz n k b2) (u3 A (ad.zj cs gA) λdY=>K ((st.set s .undef).set d (.raw sz (ad.lp n k) dY)))
  |none=>A.fail
 |none=>A.fail
def oH(i:I)(st:af)(K:af->R):R:=
 match i with
 |.n7 ah ks m jd x=>match aK gl st m,hl (aK gl st jd)with
  |.map i,some k=>j5 (dk i ar) (λ_=>match st.s.getD i .dead with
   |.map es=>match ad.zm ah ks k (cE (aK gl st x)) es with
    |some lX=>A.guard (dU depth (cE (aK gl st x))&&ft ah k&&(cF ks k.cells k.cells).isSome) (K {st with s:=st.s.set i (.map lX)})
    |none=>A.fail
   |_=>A.fail) (λ_=>step A gl (.n7 ah ks m jd x) st K)
  |_,_=>A.fail
 |.aH d a n ah=>match aK gl st a with
  |.ptr i off=>j5 (dk i ar) (λ_=>match st.s.getD i .dead with
   |.box cs=>A.guard (ad.ic off n cs (ah||Nat.beq n 1)) (Kd (cond ah (ad.pF cs off n) (ad.j4 cs off)) λv=>K (st.set d v))
   |_=>A.fail) (λ_=>match st.s.getD i .dead with
   |.box cs=>A.guard (Nat.ble (off+n) cs.length&&(ah||Nat.beq n 1)) (K (st.set d (valOf cs off n ah)))
   |_=>A.fail)
  |.d (.eY cs off)=>A.guard (Nat.ble (off+n) cs.length) (K (st.set d (.d (cond ah (.agg ((cs.drop off).take n)) (cs.getD off .dO)))))
  |_=>A.fail
 |.hs a x n=>match aK gl st a with
  |.ptr i off=>j5 (dk i ar) (λ_=>match st.s.getD i .dead with
   |.box cs=>
    let vs:=cellsOf (aK gl st x);A.guard (ad.mB (Nat.beq vs.length n) off n cs (vs.all kc)) (u3 A (ad.ln cs off vs) λdY=>K {kill st x with s:=st.s.set i (.box dY)})
   |_=>A.fail) (λ_=>match st.s.getD i .dead with
   |.box cs=>
    let vs:=cellsOf (aK gl st x);A.guard (Nat.beq vs.length n&&Nat.ble (off+n) cs.length&&vs.all kc) (K {kill st x with s:=st.s.set i (.box (putCells cs off vs))})
   |_=>A.fail)
  |_=>A.fail
 |.aC d a=>match aK gl st a with
  |.ptr i off=>j5 (dk i ar) (λ_=>match st.s.getD i .dead with
   |.box cs=>A.guard (ad.zg off cs) (u3 A (ad.B' cs off) λdY=>Kd (ad.B9 cs off) λv=>K ({st with s:=st.s.set i (.box dY)}.set d v))
   |_=>A.fail) (λ_=>match st.s.getD i .dead with
   |.box cs=>A.guard (Nat.blt off cs.length) (K ({st with s:=st.s.set i (.box (cs.set off .undef))}.set d (cs.getD off .undef)))
   |_=>A.fail)
  |_=>A.fail
 |.n8 d x z=>match aK gl st x with
  |.aS i off len _ sz=>j5 (dk i ar) (λ_=>match st.s.getD i .dead with
   |.box cs=>A.guard (ad.zh (Nat.beq z.length sz) off len sz cs) (u3 A (ad.zi cs off len z) λdY=>K ({st with s:=st.s.set i (.box dY)}.dA d (.tuple [])))
   |_=>A.fail) (λ_=>match st.s.getD i .dead with
   |.box cs=>A.guard (Nat.beq z.length sz&&Nat.ble (off+len*sz) cs.length) (K ({st with s:=st.s.set i (.box (putCells cs off (List.replicate len z).flatten))}.dA d (.tuple [])))
   |_=>A.fail)
  |v=>match gK v with
   |some (_,[])=>K (st.dA d (.tuple []))
   |_=>A.fail
 |.mk d sz z n b2=>match aK gl st n with
  |.d (.int _ n)=>j5 (dk st.s.length ar) (λ_=>A.guard (ad.u2 n b2) (u3 A (ad.w6 n.toNat z) λdY=>K ({st with s:=st.s++[b3.box dY]}.set d (.aS st.s.length 0 n.toNat n.toNat sz)))) (λ_=>A.guard (decide (0<=n)&&decide (n<=b2)) (K ({st with s:=st.s++[b3.box (List.replicate n.toNat z).flatten]}.set d (.aS st.s.length 0 n.toNat n.toNat sz))))
  |_=>A.fail
 |.aS d hn x lo hi mx=>match aK gl st x with
  |.aS j off len cap sz=>j5 (dk j ar) (λ_=>match bound gl st 0 lo,bound gl st len hi,bound gl st cap mx with
   |some l,some h,some m=>A.guard (ad.pE (Nat.beq sz hn) l h m cap) (match ad.aF .eql l m with
    |true=>K (st.set d (.d (.list sz [])))
    |false=>K (st.set d (.aS j (ad.lW off l sz) (ad.ns h l) (ad.ns m l) sz)))
   |_,_,_=>A.fail) (λ_=>step A gl (.aS d hn x lo hi mx) st K)
  |v=>match gK v with
   |some (sz,s)=>match bound gl st 0 lo,bound gl st (ad.len s) hi,bound gl st (ad.len s) mx with
    |some l,some h,some m=>A.guard (ad.pE (Nat.beq sz hn) l h m (ad.len s)) (K (st.set d (.d (.list sz (ad.sub s l h)))))
    |_,_,_=>A.fail
   |none=>A.fail
 |.gF d x off=>match aK gl st x with
  |.ptr i o=>j5 (dk i ar) (λ_=>K (st.set d (.ptr i (ad.lp o off)))) (λ_=>K (st.set d (.ptr i (o+off))))
  |_=>step A gl (.gF d x off) st K
 |.oW d x=>match x with
  |.t s=>match st.aP s with
   |.raw sz n cs=>u3 A (ad.w7 cs) λus=>K (({st with s:=st.s++[b3.box us]}.set s (.aS st.s.length 0 n n sz)).set d (.aS st.s.length 0 n n sz))
   |.ptr i off=>match st.s.getD i .dead with
    |.box cs=>match Fj ad i st.s 0 cs.length with
     |some s'=>K ({st with s:=s'}.set d (.ptr i off))
     |none=>A.fail
    |_=>A.fail
   |v=>K (st.set d (snap v))
  |_=>A.fail
 |.dH d f args=>match aK gl st f with
  |.d (.fn f)=>Fi ad ar A f (args.map (jC gl st)) st.s λr s'=>K ({st with s:=s'}.dA d r)
  |.func f a c=>Fi ad ar A f (a++args.map (jC gl st)++c) st.s λr s'=>K ({st with s:=s'}.dA d r)
  |_=>A.fail
 |.mS d own x=>match aK gl st x with
  |.aS k off len cap sz=>j5 (dk k ar) (λ_=>match st.s.getD k .dead with
   |.box bs=>match ad.Ca off len cap sz bs with
    |some y=>K ({st with s:=st.s.set k .dead}.set d (match own with
     |true=>(match y with|.list sz l=>ij sz l|y=>.d y)
     |false=>.d y))
    |none=>A.fail
   |_=>A.fail) (λ_=>step A gl (.mS d own x) st K)
  |_=>step A gl (.mS d own x) st K
 |.so d s hn x=>match st.aP s,aK gl st x with
  |.own sz l,.d (.int _ n)=>A.guard (ad.Kc (Nat.beq sz hn) n l) (K ((st.set s .undef).set d (ad.Cb sz l n)))
  |_,_=>A.fail
 |i=>step A gl i st K
def iR(i:I)(st:af)(K:af->R):R:=
 match i with
 |.ei d c a b=>match aK gl st c with
  |.d (.bool t)=>match t with
   |true=>K (st.set d (snap (aK gl st a)))
   |false=>K (st.set d (snap (aK gl st b)))
  |_=>A.fail
 |.bi d op x y=>match aK gl st x,aK gl st y with
  |.d (.int k a),.d (.int k' b)=>match Sq ad op k a b with
   |some r=>A.guard (ad.aF .geq b 0) (K (st.set d (.d r)))
   |none=>match Sp ad op k a b with
    |some (ok,r)=>A.guard (decide (k=k')) (A.guard ok (K (st.set d (.d r))))
    |none=>A.fail
  |.d (.str a),.d (.str b)=>match Sr ad op a b with
   |some (ok,r)=>A.guard ok (K (st.set d (.d r)))
   |none=>A.fail
  |_,_=>A.fail
 |.un d op x=>match op,aK gl st x with
  |.not,.d (.bool b)=>(match b with
   |true=>K (st.set d (.d (.bool false)))
   |false=>K (st.set d (.d (.bool true))))
  |.neg,.d (.int k n)=>K (st.set d (.d (.int k (ad.io .sub k 0 n))))
  |.xor,.d (.int k n)=>K (st.set d (.d (.int k (ad.io .xor k (if k.signed then -1 else k.max) n))))
  |_,_=>A.fail
 |.ci d k x=>match aK gl st x with
  |.d (.int _ n)=>K (st.set d (.d (.int k (ad.wr k n))))
  |_=>A.fail
 |.h3 d x=>match aK gl st x with
  |.d (.str s)=>K (st.set d (.d (.list 1 (ad.h3 s))))
  |_=>A.fail
 |.lF d x i sz=>match aK gl st i with
  |.d (.int _ n)=>match aK gl st x with
   |.aS j off len _ h5=>j5 (dk j ar) (λ_=>A.guard (ad.ez h5 sz n len) (K (st.set d (.ptr j (ad.lW off n sz))))) (λ_=>A.guard (Nat.beq h5 sz&&decide (0<=n)&&decide (n<len)) (K (st.set d (.ptr j (off+n.toNat*sz)))))
   |v=>match gK v with
    |some (h5,l)=>A.guard (ad.ez h5 sz n (ad.len l)) (match ad.get l n with
     |.agg cs=>K (st.set d (.d (.eY cs 0)))
     |x=>K (st.set d (.d (.eY [x] 0))))
    |none=>A.fail
  |_=>A.fail
 |.ma d x i=>match aK gl st x,aK gl st i with
  |.d (.str s),.d (.int _ n)=>A.guard (ad.Fg n (ad.eu s)) (K (st.set d (.d (gj (ad.B8 s n)))))
  |_,_=>A.fail
 |.ss d x lo hi=>match aK gl st x with
  |.d (.str s)=>match bound gl st 0 lo,bound gl st (ad.eu s) hi with
   |some l,some h=>A.guard (ad.oE l h (ad.eu s)) (K (st.set d (.d (.str (ad.iB s l h)))))
   |_,_=>A.fail
  |_=>A.fail
 |.ap d s x sz b2=>match st.aP s with
  |.own ej l=>match p6 st (aK gl st x)with
   |some (dw,l2)=>A.guard (ad.gap ej sz dw (ad.len l) (ad.len l2) b2) (K ((st.set s .undef).set d (.own sz (ad.app l l2))))
   |none=>A.fail
  |.gE ej=>match p6 st (aK gl st x)with
   |some (dw,l2)=>A.guard (ad.gap ej sz dw (ad.len l2) 0 b2) (K ((st.set s .undef).set d (ij sz l2)))
   |none=>A.fail
  |.raw ej n cs=>Ki ad A gl d s x sz b2 ej n cs st K
  |_=>hz A gl false false d s x sz b2 st K
 |.mQ d s x sz b2=>match st.aP s with
  |.raw ej n cs=>Ki ad A gl d s x sz b2 ej n cs st K
  |_=>hz A gl true false d s x sz b2 st K
 |.mR d s x sz b2=>match st.aP s with
  |.raw ej n cs=>Ki ad A gl d s x sz b2 ej n cs st K
  |_=>hz A gl true true d s x sz b2 st K
 |.kF d s z i x sz b2=>match st.aP s,sx (st.aP z),st.aP i,hl (aK gl st x)with
  |.own ej l,some (dw,[_]),.d (.int _ n),some kH=>
   A.guard (ad.Ff ej sz dw n (ad.len l) b2 (Nat.beq kH.cells.length sz&&kH.cells.all jt)) (K ((st.set s .undef).set d (.own sz (ad.app l [kH]))))
  |_,_,_,_=>A.fail
 |.mP d str x=>match aK gl st x with
  |.aS _ _ len _ _=>A.guard (!str) (K (st.set d (.d (.int .i64 len))))
  |.d (.str s)=>A.guard str (K (st.set d (.d (.int .i64 (ad.eu s)))))
  |v=>match gK v with
   |some (_,l)=>A.guard (!str) (K (st.set d (.d (.int .i64 (ad.len l)))))
   |none=>A.fail
 |.p2 d lt x y=>match aK gl st x,aK gl st y with
  |.d (.int k a),.d (.int k' b)=>A.guard (decide (k=k')) (K (st.set d (.d (.int k (match (match lt with|true=>ad.aF .gtr a b|false=>ad.aF .lss a b)with|true=>b|false=>a)))))
  |_,_=>A.fail
 |.eq d neg ah ks x y=>match hl (aK gl st x),hl (aK gl st y)with
  |some a,some b=>A.guard (ft ah a&&ft ah b) <| aj4 A (ad.oF ks a.cells b.cells) λr=>match r with
   |true=>K (st.set d (.d (.bool (!neg))))
   |false=>K (st.set d (.d (.bool neg)))
  |_,_=>A.fail
 |.aI d ah ks m k z ok=>match aK gl st m with
  |.d (.k6 kl vl)=>match hl (aK gl st k)with
   |none=>A.fail
   |some k=>A.guard (ft ah k&&(cF ks k.cells k.cells).isSome) <| match ad.look ah ks k kl vl with
    |some none=>K (st.set d (cond ok (.tuple [cE z,.d (.bool false)]) (cE z)))
    |some (some v)=>K (st.set d (cond ok (.tuple [.d v,.d (.bool true)]) (.d v)))
    |none=>A.fail
  |.map i=>j5 (dk i ar) (λ_=>match hl (aK gl st k)with
   |none=>A.fail
   |some k=>A.guard (ft ah k&&(cF ks k.cells k.cells).isSome) <| match st.s.getD i .dead with
    |.map es=>match ad.zl ah ks k es with
     |some none=>K (st.set d (cond ok (.tuple [cE z,.d (.bool false)]) (cE z)))
     |some (some v)=>K (st.set d (cond ok (.tuple [v,.d (.bool true)]) v))
     |none=>A.fail
    |_=>A.fail) (λ_=>step A gl (.aI d ah ks m k z ok) st K)
  |_=>step A gl (.aI d ah ks m k z ok) st K
 |i=>oH ad ar A gl i st K
def rZ:List cb->af->(af->R)->R
 |[],st,K=>K st
 |⟨none,i⟩::l,st,K=>iR ad ar A gl i st λst=>rZ l st K
 |⟨some (s,want),i⟩::l,st,K=>match st.aP s with
  |.d (.bool b)=>match want with
   |true=>(match b with
    |true=>iR ad ar A gl i st λst=>rZ l st K
    |false=>rZ l (st.dA i.dst (.tuple [])) K)
   |false=>(match b with
    |true=>rZ l (st.dA i.dst (.tuple [])) K
    |false=>iR ad ar A gl i st λst=>rZ l st K)
  |.tuple []=>rZ l (st.dA i.dst (.tuple [])) K
  |_=>A.fail
def Kj(g:cb)(st:af)(K:af->R):R:=match g.g with
 |none=>iR ad ar A gl g.i st K
 |some (s,want)=>match st.aP s with
  |.d (.bool b)=>match want with
   |true=>(match b with
    |true=>iR ad ar A gl g.i st K
    |false=>K (st.dA g.i.dst (.tuple [])))
   |false=>(match b with
    |true=>K (st.dA g.i.dst (.tuple []))
    |false=>iR ad ar A gl g.i st K)
  |.tuple []=>K (st.dA g.i.dst (.tuple []))
  |_=>A.fail
def Kk(id:Nat)(i:I)(st:af):Option (b3×Nat×(Nat->ag)):=
 match i with
 |.mk d sz z n b2=>j5 (dk id ar) (λ_=>match aK gl st n with
  |.d (.int _ n)=>cond (ad.u2 n b2) (match ad.w6 n.toNat z with
   |some dY=>some (.box dY,d,λi=>.aS i 0 n.toNat n.toNat sz)
   |none=>none) none
  |_=>none) (λ_=>jQ gl (.mk d sz z n b2) st)
 |i=>jQ gl i st
def Fk(id:Nat)(g:cb)(st:af)(K:af->R):R:=match g.g,Kk ad ar gl id g.i st with
  |none,some (o,d,v)=>A.guard (Nat.blt id st.s.length) (K ({st with s:=st.s.set id o}.set d (v id)))
  |_,_=>A.fail
def Kl(id:Nat)(g:cb)(st:af)(K:af->R):R:=j5 (hO g.i) (λ_=>match g.g,g.i with
  |none,.mk d sz z n b2=>j5 (dk id ar) (λ_=>match aK gl st n with
   |.d (.int _ n)=>aj1 A (ad.u2 n b2) λ_=>u3 A (ad.w6 n.toNat z) λdY=>A.guard (Nat.blt id st.s.length) (K ({st with s:=st.s.set id (.box dY)}.set d (.aS id 0 n.toNat n.toNat sz)))
   |_=>A.fail) (λ_=>Fk ad ar A gl id g st K)
  |_,_=>Fk ad ar A gl id g st K) (λ_=>Kj ad ar A gl g st K)
def Km(st aU:af)(args:List ag):iW:=
 {a:=some st.s.length,c:=some (zo ad ar st.s (st.s.length+st.s.length+8) (args.flatMap (refs depth)) [],st.s,aU.s)}
def Fl(id:Nat)(g:cb)(st aU:af):iW:=match g.g,g.i with
 |none,.dH _ f args=>match aK gl st f with
  |.d (.fn _)=>Km ad ar st aU (args.map (jC gl st))
  |.func _ a c=>Km ad ar st aU (a++args.map (jC gl st)++c)
  |_=>{}
 |_,_=>uh gl id g st aU
def Fm(a b:List (Nat×Nat×Nat)):Bool:=
 a.all λx=>b.all λy=>match Nat.beq x.1 y.1 with
  |false=>true
  |true=>!Nat.beq x.2.2 big&&!Nat.beq y.2.2 big&&(Nat.ble (x.2.1+x.2.2) y.2.1||Nat.ble (y.2.1+y.2.2) x.2.1)
def Kn(x:cb)(en:iW)(y:cb)(fk:iW):Bool:=
 p4 en.k (y.rd++y.i.hw)&&p4 fk.k (x.rd++x.i.hw)&&Fm en.w (fk.r++fk.w)&&Fm fk.w en.r&&o0 en fk&&o0 fk en&&q6 en fk&&q6 fk en
def Fo:List cb->List (List Nat)->List (cb×iW)->Nat->af->(af->R)->R
 |[],_,_,_,st,K=>K st
 |g::l,dz,acc,id,st,K=>
  Kl ad ar A gl id g st λaU=>
  A.guard ((dz.headD []).all λi=>match acc[i]? with
   |some (x,en)=>Kn x en g (Fl ad ar gl id g st aU)
   |none=>false) <|
  Fo l dz.tail (acc++[(g,Fl ad ar gl id g st aU)]) (j5 (hO g.i) (λ_=>id+1) (λ_=>id)) aU K
def Ko(l:List cb)(dz:List (List Nat))(st:af)(K:af->R):R:=Fo ad ar A gl l dz [] st.s.length (st.room (o1 l)) K
def Cf(Y:iJ R)(yi:Nat)(i:I)(st:af)(p:Option aA)(K:af->Option aA->R):R:=
 match Au gl st i,i with
 |.fT j,.dH d _ args=>A.guard (Nat.beq j yi) (Ar A gl Y d args st p K)
 |_,i=>iR ad ar A gl i st λst=>K st p
def r1(Y:iJ R)(yi:Nat):List cb->af->Option aA->(af->Option aA->R)->R
 |[],st,p,K=>K st p
 |⟨none,i⟩::l,st,p,K=>Cf ad ar A gl Y yi i st p λst p=>r1 Y yi l st p K
 |⟨some (s,want),i⟩::l,st,p,K=>match st.aP s with
  |.d (.bool b)=>match want with
   |true=>(match b with
    |true=>Cf ad ar A gl Y yi i st p λst p=>r1 Y yi l st p K
    |false=>r1 Y yi l (st.dA i.dst (.tuple [])) p K)
   |false=>(match b with
    |true=>r1 Y yi l (st.dA i.dst (.tuple [])) p K
    |false=>Cf ad ar A gl Y yi i st p λst p=>r1 Y yi l st p K)
  |.tuple []=>r1 Y yi l (st.dA i.dst (.tuple [])) p K
  |_=>A.fail
def oI(Y:iJ R)(yi:Nat):eG->af->Option aA->(aA->af->Option aA->R)->R
 |.skip,st,p,K=>K .normal st p
 |.ops l,st,p,K=>r1 ad ar A gl Y yi l st p (K .normal)
 |.any l dz,st,p,K=>Ko ad ar A gl l dz st λst=>K .normal st p
 |.bad,_,_,_=>A.fail
 |.seq a b,st,p,K=>oI Y yi a st p λx st p=>match x with
  |.normal=>oI Y yi b st p K
  |x=>K x st p
 |.cond c a b,st,p,K=>match aK gl st c with
  |.d (.bool t)=>match t with
   |true=>oI Y yi a st p K
   |false=>oI Y yi b st p K
  |_=>A.fail
 |.block i b,st,p,K=>oI Y yi b st p λx st p=>match x with
  |.exit j=>cond (Nat.beq j i) (K .normal st p) (K (.exit j) st p)
  |x=>K x st p
 |.loop ts bs b,st,p,K=>A.guard p.isNone <| zp ad ar A st.s.length ts bs st λst0=>
  A.fix (λcL rec=>oI Y yi b cL none λx st p=>match x with
   |.normal=>A.guard p.isNone (zp ad ar A cL.s.length ts bs st rec)
   |x=>K x st p) st0
 |.h4 _ _ _ _,_,_,_=>A.fail
 |.exit i,st,p,K=>K (.exit i) st p
 |.ret,st,p,K=>K .ret st p
def Fp(mg h4:af->(aA->af->R)->R)(ps:List Nat)(g:Nat)(gD:List ag)(st:af)(K:aA->af->R):R:=
 A.iter g λcO=>A.guard cO.res.isEmpty <|
  oI ad ar A gl (q8 A mg h4 ps st.la) st.s.length cO.code {aP:=q7 (.fT st.s.length::gD) 0,bI:=λ_=>none,s:=st.s++[.dead]} none λe Av p=>match e with
   |.exit _=>A.fail
   |_=>K (p.getD .normal) {st.la with s:=Av.s}
def hH:eG->af->(aA->af->R)->R
 |.skip,st,K=>K .normal st
 |.ops l,st,K=>rZ ad ar A gl l st (K .normal)
 |.any l dz,st,K=>Ko ad ar A gl l dz st (K .normal)
 |.bad,_,_=>A.fail
 |.seq a b,st,K=>hH a st λx st=>match x with
  |.normal=>hH b st K
  |x=>K x st
 |.cond c a b,st,K=>match aK gl st c with
  |.d (.bool t)=>match t with
   |true=>hH a st K
   |false=>hH b st K
  |_=>A.fail
 |.block i b,st,K=>hH b st λx st=>match x with
  |.exit j=>cond (Nat.beq j i) (K .normal st) (K (.exit j) st)
  |x=>K x st
 |.loop ts bs b,st,K=>zp ad ar A st.s.length ts bs st λst0=>
  A.fix (λcL rec=>hH b cL λx st=>match x with
   |.normal=>zp ad ar A cL.s.length ts bs st rec
   |x=>K x st) st0
 |.h4 x ps a b,st,K=>match aK gl st x with
  |.func g [] gD=>Fp ad ar A gl (hH a) (hH b) ps g gD st K
  |.d (.fn g)=>Fp ad ar A gl (hH a) (hH b) ps g [] st K
  |_=>A.fail
 |.exit i,st,K=>K (.exit i) st
 |.ret,st,K=>K .ret st
def u5(fn:aX)(args:List ag)(s:aV)(K:ag->aV->R):R:=
 hH ad ar A gl fn.code {aP:=q7 args 0,bI:=λ_=>none,s} λx st=>match x with
  |.exit _=>A.fail
  |_=>match qb st fn.res with
   |some r=>A.guard (dU depth r) (Kh ad ar s.length r st.s K)
   |none=>A.fail
end
section
variable {ar:List Nat}{R:Type}{A:mc R}{gl:Nat->List D}
theorem auL:Sp bn.bY=An:=by funext op k a b;cases op<;>rfl
theorem auM:Sq bn.bY=vP:=by funext op k a b;cases op<;>rfl
theorem auN:Sr bn.bY=Ao:=by funext op a b;cases op<;>rfl
theorem Sv(i:Nat)(o:b3):Ke bn.bY ar i o=o.refs:=ay3
theorem Sw(f:Nat->Nat)(i:Nat)(o:b3):Kf bn.bY ar f i o=o.ren f:=ay3
theorem aj5(n i:Nat)(o:b3):Ss bn.bY ar n i o=o.fB n:=ay3
theorem Kp(s:aV):∀(n:Nat) (todo acc:List Nat),zo bn.bY ar s n todo acc=reach s n todo acc
 |0,_,_=>rfl
 |_+1,[],_=>rfl
 |n+1,i::todo,acc=>by simp[zo,reach,Sv,Kp s n,Sn]
theorem aj6(s:aV)(ids:List Nat)(args:List ag):Kg bn.bY ar s ids args=closed s ids args:=by grind[Kg,closed,Sv]
theorem Sx(f:Nat->Nat):∀(p:Nat) (l:List b3),Fh bn.bY ar f p l=l.map (b3.ren f)
 |_,[]=>rfl
 |p,o::l=>by simp[Fh,Sw,Sx f (p+1) l,aAh]
theorem Kq(n:Nat):∀(p:Nat) (l:List b3),Ce bn.bY ar n p l=l.all (b3.fB n)
 |_,[]=>rfl
 |p,o::l=>by simp[Ce,aj5,Kq n (p+1) l,aBt]
theorem aj7(f:Nat)(args:List ag)(s:aV)(K:ag->aV->R):Fi bn.bY ar A f args s K=kG A f args s K:=by
 cases ar with
 |nil=>rfl
 |cons a l=>grind[Fi,kG,aj2,Kp,aj6,Sw,Sx]
theorem Sy(n:Nat)(ts bs:List Nat)(st:af)(K:af->R):zp bn.bY ar A n ts bs st K=forget A n ts bs st K:=by
 cases ar with
 |nil=>rfl
 |cons a l=>
  simp[zp,forget,Dq,Kq];grind
theorem aj8(n:Nat)(r:ag)(s:aV)(K:ag->aV->R):Kh bn.bY ar n r s K=K r (gc n r s):=by
 cases ar with
 |nil=>rfl
 |cons a l=>
  simp[Kh,gc,Kq];grind
theorem aj9(id:Nat)(i:I)(st:af):Kk bn.bY ar gl id i st=jQ gl i st:=by
 cases i<;>first|rfl|(unfold Kk;cases dk id ar<;>rfl)
theorem Sz(i:Nat):∀(n:Nat) (s:aV) (j:Nat),Fj bn.bY i s j n=p7 i s j n
 |0,_,_=>rfl
 |n+1,s,j=>by
  have h:St bn.bY s i j=vQ s i j:=rfl;simp[Fj,p7,h];cases vQ s i j with
  |none=>rfl
  |some s'=>exact Sz i n s' (j+1)
theorem aj'(s:aV)(k off len cap sz:Nat):oZ s (.aS k off len cap sz)=match s.getD k .dead with
  |.box bs=>(match bn.bY.Ca off len cap sz bs with
   |some y=>some (y,k)
   |none=>none)
  |_=>none:=by
 simp[oZ,bn.bY];grind
theorem aka(i:I)(st:af)(K:af->R):oH bn.bY ar A gl i st K=step A gl i st K:=by
 cases i;case dH d f args=>
  simp[oH,step,aj7];rfl
 case oW d x=>
  simp[oH,step,Sz];rfl
 case mS d own x=>
  simp[oH,step];cases aK gl st x<;>try rfl
  grind[nU,aj']
 case aH d a n ah=>
  simp[oH,step,Sl];cases aK gl st a<;>try first|rfl|(refine nU _ ?_;rfl)
  grind
 case hs a x n=>
  simp[oH,step];cases aK gl st a<;>first|rfl|(refine nU _ ?_;rfl)
 case aC d a=>
  simp[oH,step,Sl];cases aK gl st a<;>first|rfl|(refine nU _ ?_;rfl)
 case n8 d x z=>
  simp[oH,step];cases aK gl st x<;>first|rfl|(refine nU _ ?_;rfl)
 case mk d sz z n b2=>
  simp[oH,step];cases aK gl st n<;>try rfl
  rename_i x;cases x<;>first|rfl|(refine nU _ ?_;rfl)
 case aS d hn x lo hi mx=>
  simp[oH];split
  .rename_i e;refine nU _ ?_;have h1:∀(l m:Int) (x y:af),(match bn.bY.aF .eql l m with|true=>K x|false=>K y)=K (cond (decide (l=m)) x y):=by
    intro l m x y;show(match decide (l=m)with|true=>K x|false=>K y)=_;grind
   have h2:∀(b:Bool) (x y:ag),st.set d (cond b x y)=cond b (st.set d x) (st.set d y):=axt;simp[step,e,h1,h2];rfl
  .rename_i e;simp[step];cases gK (aK gl st x)<;>rfl
 case gF d x off=>
  simp[oH,step];cases aK gl st x<;>first|rfl|(refine nU _ ?_;rfl)
 case n7 ah ks m k x=>
  have h0:∀(es:List (D×ag)) (k:D) (x:ag) (F:List (D×ag)->R),(match bn.bY.zm ah ks k x es with
   |some lX=>F lX
   |none=>A.fail)=match fu ah ks k es 0 with
    |some j=>F (nD es k x j)
    |none=>A.fail:=by
   intro es k x F;show(match tF ah ks k x es with
    |some lX=>F lX
    |none=>A.fail)=_
   grind[tF]
  simp[oH,step,h0];grind[nU]
 all_goals rfl
theorem Fq(i:I)(st:af)(K:af->R):iR bn.bY ar A gl i st K=step A gl i st K:=by
 cases i;case ap d s x sz b2=>
  simp[iR,step,hz];cases st.aP s<;>rfl
 case mQ d s x sz b2=>
  simp[iR,step,hz];cases st.aP s<;>rfl
 case mR d s x sz b2=>
  simp[iR,step,hz];cases st.aP s<;>rfl
 case kF d s z i x sz b2=>
  have h:∀a b c i n k t u,bn.bY.Ff a b c i n k (t&&u)=(Nat.beq a b&&Nat.beq c b&&decide (i=(n:Int))&&Nat.ble (n+1) k&&t&&u):=by
   intro a b c i n k t u;show(_&&(t&&u))=_;grind
  simp[iR,step,h];rfl
 case eq d neg ah ks x y=>
  have h:∀r:Bool,(match r with
   |true=>K (st.set d (.d (.bool (!neg))))
   |false=>K (st.set d (.d (.bool neg))))=K (st.set d (.d (.bool (cond neg (!r) r)))):=by
   simp
  simp[iR,step,h];rfl
 case un d op x=>
  have h:∀b:Bool,(match b with
   |true=>K (st.set d (.d (.bool false)))
   |false=>K (st.set d (.d (.bool true))))=K (st.set d (.d (.bool (!b)))):=by
   simp
  simp only[iR,step,h];rfl
 case lF d x i sz=>
  have h:∀(l:List D) (n:Int),(match bn.bY.get l n with
   |.agg cs=>K (st.set d (.d (.eY cs 0)))
   |x=>K (st.set d (.d (.eY [x] 0))))=K (st.set d (.d (.eY (l.getD n.toNat .dO).cells 0))):=by
   intro l n;show(match l.getD n.toNat .dO with
    |.agg cs=>K (st.set d (.d (.eY cs 0)))
    |x=>K (st.set d (.d (.eY [x] 0))))=_
   cases l.getD n.toNat .dO<;>rfl
  simp[iR,step,h];cases aK gl st i<;>try rfl
  rename_i y;cases y<;>try rfl
  cases aK gl st x<;>first|rfl|(refine nU _ ?_;rfl)
 case aI d ah ks m k z ok=>
  simp[iR];split
  .rename_i kl vl e;simp[step,e];cases hl (aK gl st k)with
   |none=>rfl
   |some k=>
    have h:bn.bY.look ah ks k kl vl=Cc ah ks k kl vl:=rfl;grind[Cc]
  .rename_i i e;refine nU _ ?_;simp[step,e];cases hl (aK gl st k)with
   |none=>rfl
   |some k=>
    have h:∀es,bn.bY.zl ah ks k es=u4 ah ks k es:=λ_=>rfl;grind[u4]
  .rfl
 all_goals (refine azK ?_ (aka (ar:=ar) _ _ _);rfl)
theorem auO{α:Type}{b:Bool}{x y bx y':α}(h1:x=bx)(h2:y=y'):(match b with|true=>x|false=>y)=cond b bx y':=axv
theorem Kr:∀(l:List cb) (st:af) (K:af->R),rZ bn.bY ar A gl l st K=steps A gl l st K
 |[],st,K=>rfl
 |⟨none,i⟩::l,st,K=>by
  unfold rZ steps;rw[Fq];exact congrArg _ (funext λst=>Kr l st K)
 |⟨some (s,want),i⟩::l,st,K=>by
  simp[rZ,steps,Fq,Kr l];cases st.aP s<;>try rfl
  .rename_i x;cases x<;>try rfl
   rename_i b;cases want<;>cases b<;>rfl
  .rename_i vs;cases vs<;>rfl
theorem akb(g:cb)(st:af)(K:af->R):Kj bn.bY ar A gl g st K=step1 A gl g st K:=by
 grind[Kj,step1,Fq]
theorem akc(id:Nat)(g:cb)(st:af)(K:af->R):Fk bn.bY ar A gl id g st K=match g.g,jQ gl g.i st with
  |none,some (o,d,v)=>A.guard (Nat.blt id st.s.length) (K ({st with s:=st.s.set id o}.set d (v id)))
  |_,_=>A.fail:=by
 grind[Fk,aj9]
theorem akd:Kn=Aq:=by
 have h:Fm=me:=by
  funext a b;unfold Fm me;congr 1;grind
 grind[Kn,Aq]
theorem ake(id:Nat)(g:cb)(st:af)(K:af->R):Kl bn.bY ar A gl id g st K=ke A gl id g st K:=by
 simp[Kl,ke,akb,akc,Sn];obtain⟨u6,Fs⟩:=g;cases u6 with
 |some _=>simp
 |none=>
  cases Fs<;>try rfl
  rename_i d sz z n b2;cases dk id ar with
  |false=>rfl
  |true=>
   simp[jQ];cases aK gl st n<;>try rfl
   rename_i x;cases x<;>try rfl
   rename_i k m;show(match (decide (0<=m)&&decide (m<=(b2:Int)))with
    |true=>u3 A _ _
    |false=>A.fail)=(match (none:Option (Nat×Bool)),(cond (decide (0<=m)&&decide (m<=(b2:Int))) (some (b3.box (List.replicate m.toNat z).flatten,d,λi=>ag.aS i 0 m.toNat m.toNat sz)) none)with
    |none,some (o,d,v)=>A.guard (Nat.blt id st.s.length) (K ({st with s:=st.s.set id o}.set d (v id)))
    |_,_=>A.fail)
   cases decide (0<=m)&&decide (m<=(b2:Int))<;>rfl
theorem akf(id:Nat)(g:cb)(st aU:af):Fl bn.bY ar gl id g st aU=uh gl id g st aU:=by
 obtain⟨u6,Fs⟩:=g;cases u6 with
 |some _=>cases Fs<;>rfl
 |none=>
  cases Fs<;>try rfl
  simp only[Fl,Km,Kp];rfl
theorem SA:∀(l:List cb) (dz:List (List Nat)) (acc:List (cb×iW)) (id:Nat) (st:af) (K:af->R),Fo bn.bY ar A gl l dz acc id st K=p9 A gl l dz acc id st K
 |[],_,_,_,_,_=>rfl
 |g::l,dz,acc,id,st,K=>by
  simp[Fo,p9,ake,akf,akd,SA l];rfl
theorem SB:@Ko bn.bY ar R A gl=qa A gl:=by
 funext l dz st K;exact SA _ _ _ _ _ _
theorem akg(Y:iJ R)(yi:Nat):∀(l:List cb) (st:af) (p:Option aA) (K:af->Option aA->R),r1 bn.bY ar A gl Y yi l st p K=hP A gl Y yi l st p K:=by
 have h0:∀i st p K,Cf bn.bY ar A gl Y yi i st p K=mf A gl Y yi i st p K:=by
  intro i st p K;simp[Cf,mf,Fq];rfl
 intro l;induction l with
 |nil=>intro st p K;rfl
 |cons g l ih=>
  intro st p K;obtain⟨u6,i⟩:=g;cases u6 with
  |none=>simp_all[r1,hP]
  |some q=>
   obtain⟨s,want⟩:=q;simp[r1,hP,h0,ih];grind
theorem akh(Y:iJ R)(yi:Nat):∀(c:eG) (st:af) (p:Option aA) (K:aA->af->Option aA->R),oI bn.bY ar A gl Y yi c st p K=hc A gl Y yi c st p K:=by
 intro c;induction c with
 |ops l=>intro st p K;exact akg Y yi l st p _
 |any l dz=>simp_all[oI,hc,SB]
 |seq a b iQ jk=>
  intro st p K;simp[oI,hc,iQ,jk];rfl
 |cond c a b iQ jk=>
  grind[oI,hc]
 |block i b ih=>
  intro st p K;simp[oI,hc,ih];rfl
 |loop ts bs b ih=>
  intro st p K;simp[oI,hc,ih,Sy];rfl
 |_=>intro st p K;rfl
theorem Ft:∀(c:eG) (st:af) (K:aA->af->R),hH bn.bY ar A gl c st K=run A gl c st K:=by
 intro c;induction c with
 |ops l=>intro st K;exact Kr l st _
 |any l dz=>simp_all[hH,run,SB]
 |seq a b iQ jk=>
  intro st K;simp[hH,run,iQ,jk];rfl
 |cond c a b iQ jk=>
  grind[hH,run]
 |block i b ih=>
  intro st K;simp[hH,run,ih];rfl
 |loop ts bs b ih=>
  intro st K;simp[hH,run,ih,Sy];rfl
 |h4 x ps a b iQ jk=>
  intro st K;have h1:hH bn.bY ar A gl a=run A gl a:=axv;have h2:hH bn.bY ar A gl b=run A gl b:=axv;have av:∀mg h4 ps g gD st K,Fp bn.bY ar A gl mg h4 ps g gD st K=o2 A gl mg h4 ps g gD st K:=by
   intro mg h4 ps g gD st K;simp[Fp,o2,akh];rfl
  grind[hH,run]
 |_=>intro st K;rfl
theorem SC(fn:aX)(args:List ag)(s:aV)(K:ag->aV->R):u5 bn.bY ar A gl fn args s K=lH A gl fn args s K:=by
 simp[u5,lH,Ft,aj8];rfl
end
section
variable {P:Program}{gl:Nat->List D}
theorem a7.lq(ar:List Nat){f:Nat}{cO:aX}{args:List ag}{s s':aV}{r:ag}(h:a7 P f cO)(aw:∀ad,ad=bn.bY->∀Q:ag->aV->Prop,Q r s'->u5 ad ar (bz P gl) gl cO args s Q):bM P gl f args s r s':=by
 have:=aw _ rfl (λfJ wJ=>fJ=r/\wJ=s') ⟨rfl,rfl⟩;grind[SC,fh]
theorem a7.cw{f:Nat}{cO:aX}{args:List ag}{s s':aV}{r:ag}(h:a7 P f cO)(aw:∀ad,ad=bn.bY->∀Q:ag->aV->Prop,Q r s'->u5 ad [] (bz P gl) gl cO args s Q):bM P gl f args s r s':=h.lq [] aw
theorem a7.jl(ar:List Nat){f:Nat}{cO:aX}{args:List ag}{s:aV}(Q:ag->aV->Prop)(h:a7 P f cO)(aw:∀ad,ad=bn.bY->∀K:ag->aV->Prop,(∀r s,Q r s->K r s)->u5 ad ar (fK P gl) gl cO args s K):∃r s',Q r s'/\bM P gl f args s r s':=by
 have:=aw _ rfl _ λ_ _ h=>h;rw[SC]at this;obtain⟨r,s',h1,h2⟩:=h.ext this;grind
theorem a7.cr{f:Nat}{cO:aX}{args:List ag}{s:aV}(Q:ag->aV->Prop)(h:a7 P f cO)(aw:∀ad,ad=bn.bY->∀K:ag->aV->Prop,(∀r s,Q r s->K r s)->u5 ad [] (fK P gl) gl cO args s K):∃r s',Q r s'/\bM P gl f args s r s':=h.jl [] Q aw
theorem Cg(s:List UInt8):∀(es:List (D×ag)) (i:Nat),(∀e∈es,∃t,e.1=.str t)->fu false [2] (.str s) es i=some none\/∃j,j<es.length/\fu false [2] (.str s) es i=some (some (i+j))
 |[],i,_=>.inl rfl
 |e::es,i,h=>by
  obtain⟨t,aC⟩:=h e aAr;obtain⟨k,v⟩:=e;subst aC;cases a6:decide (s=t)with
  |true=>
   refine .inr ⟨0,aCd _,?_⟩;show(match some (decide (s=t)&&true)with|some true=>some (some i)|some false=>fu false [2] (.str s) es (i+1)|none=>none)=_;simp_all
  |false=>
   have aw:fu false [2] (.str s) ((.str t,v)::es) i=fu false [2] (.str s) es (i+1):=by
    show(match some (decide (s=t)&&true)with|some true=>some (some i)|some false=>fu false [2] (.str s) es (i+1)|none=>none)=_;rw[a6];rfl
   rw[aw];rcases Cg s es (i+1) λe he=>h e (aAG _ he)with h1|⟨j,h1,h2⟩
   .exact .inl h1
   .exact .inr ⟨j+1,aCA h1,by rw[h2];congr 2;omega⟩
theorem aki{ad:bn}(ae:ad=bn.bY)(s:List UInt8){kl vl:List D}(au:∀k∈kl,∃t,k=.str t)(aH:kl.length=vl.length):∃o,ad.look false [2] (.str s) kl vl=some o/\∀v,o=some v->v∈vl:=by
 subst ae;show ∃o,Cc false [2] (.str s) kl vl=some o/\_;unfold Cc;rcases Cg s ((kl.zip vl).map λe=>(e.1,ag.d e.2)) 0 (λe he=>by
  obtain⟨p,hp,rfl⟩:=aAn.1 he;exact au _ (List.of_mem_zip hp).1)with h|⟨j,h1,h2⟩
 all_goals simp_all
theorem b5{Q:ag->aV->Prop}{r fJ:ag}{s s':aV}(h:Q r s)(h1:r=fJ)(h2:s=s'):Q fJ s':=axu
def b6{α:Type}(S:α->af)(J:α->Prop)(r2:α->Nat)(n:Nat)(st:af):Prop:=∃a,J a/\r2 a=n/\st=S a
theorem eb{α:Type}{S:α->af}{J:α->Prop}{r2:α->Nat}{n:Nat}{st:af}(b:α)(aq:J b)(hm:r2 b<n)(he:st=S b):∃m,m<n/\b6 S J r2 m st:=⟨_,hm,b,aq,rfl,he⟩
theorem bG{f:Nat}{dL:List ag}{s:aV}{r:ag}{t:aV}{K:ag->aV->Prop}(au:K r t)(h:bM P gl f dL s r t:=by assumption):∃r s2,bM P gl f dL s r s2/\K r s2:=⟨r,t,h,au⟩
theorem bH{a b:Prop}(k:b)(h:a:=by first|assumption|(simp only[aI ae,azH,azN,azG,az0,aAz,az6,aBO,true_and,azM];omega)):a/\b:=⟨h,k⟩
theorem auP{f:Nat}{dL:List ag}{s:aV}{r:ag}{t:aV}{K:ag->aV->Prop}(h:bM P gl f dL s r t)(au:K r t):∃r s2,bM P gl f dL s r s2/\K r s2:=⟨r,t,h,au⟩
end
section
variable {P:Program}{gl:Nat->List D}{ad:bn}{ar:List Nat}
theorem akj(ae:ad=bn.bY){a b:eG}{st:af}{K:aA->af->Prop}(pG:aA->af->Prop)(h1:hH ad ar (fK P gl) gl a st pG)
  (h2:∀x aU,pG x aU->(match x with
   |.normal=>hH ad ar (fK P gl) gl b aU K
   |x=>K x aU)):hH ad ar (fK P gl) gl (.seq a b) st K:=by
 subst ae;rw[Ft]at h1;obtain⟨e,cL,bN,cz⟩:=Qs (bt:=λ_ _=>False) h1;have av:=h2 e cL bN;show hH bn.bY ar (fK P gl) gl a st _;rw[Ft];exact cz _ av
def Fu:List eG->eG->eG
 |[],c=>c
 |a::l,c=>.seq a (Fu l c)
theorem xb(ae:ad=bn.bY):∀(l:List eG) {c:eG} {st:af} {K:aA->af->Prop} (pG:aA->af->Prop),hH ad ar (fK P gl) gl (Fu l .skip) st pG->
  (∀x aU,pG x aU->(match x with
   |.normal=>hH ad ar (fK P gl) gl c aU K
   |x=>K x aU))->hH ad ar (fK P gl) gl (Fu l c) st K
 |[],c,st,K,pG,h1,h2=>h2 .normal st h1
 |a::l,c,st,K,pG,h1,h2=>by
  refine akj ae (λx st=>match x with
   |.normal=>hH ad ar (fK P gl) gl (Fu l .skip) st pG
   |x=>pG x st) h1 λx aU ak=> ?_
  cases x with
  |normal=>exact xb ae l pG ak h2
  |exit i=>exact h2 _ _ ak
  |ret=>exact h2 _ _ ak
def Ch(aP:Nat->ag):List (Nat×ag)->Nat->ag
 |[]=>aP
 |(k,v)::l=>cW (Ch aP l) k v
theorem Ks{aP:Nat->ag}:∀{l:List (Nat×ag)},(∀p∈l,aP p.1=p.2)->Ch aP l=aP
 |[],_=>rfl
 |(k,v)::l,h=>by
  show cW (Ch aP l) k v=aP;rw[Ks (λp hp=>h p (aAG _ hp))];funext j;rw[df];split
  .rename_i e;subst e;exact(h (j,v) aAr).symm
  .rfl
def pH(st:af)(l:List (Nat×ag))(bI:Nat->Option (List ag))(s:aV):Prop:=(∀p∈l,st.aP p.1=p.2)/\st.bI=bI/\st.s=s
theorem pH.eq{st:af}{l:List (Nat×ag)}{bI:Nat->Option (List ag)}{s:aV}(h:pH st l bI s):st=⟨Ch st.aP l,bI,s⟩:=by
 obtain⟨aP,auQ,s'⟩:=st;obtain⟨h1,h2,av⟩:=h;grind[Ks]
end
def aCB:=@Nat.lt_of_succ_lt_succ
def aBr:=@List.mem_or_eq_of_mem_set
def azO:=@decide_eq_true
theorem axT(h:p:=by subst h;rfl):p:=h
theorem zq{α:Type}{o:Option α}{x:α}{K:α->Prop}:o=some x->K x->(match o with|some y=>K y|none=>False):=λh k=>axu
theorem zr{b:Bool}{K:Prop}:b=true->K->(match b with|true=>K|false=>False):=λh k=>axu
theorem auR{R:Type}{A:mc R}{gl:Nat->List D}{ad:bn}(h:ad=bn.bY){ar akk:List Nat}{c:eG}{st:af}{K:aA->af->R}:hH ad ar A gl c st K=hH ad akk A gl c st K:=by
 grind[Ft]
theorem SD:∀(vs a b:List ag),putCells a 0 vs=putCells a 0 vs->∀(c:List ag) (j:Nat),j+vs.length<=b.length->putCells (a++(b++c)) (a.length+j) vs=a++(putCells b j vs++c)
 |[],_,_,_,_,_,_=>rfl
 |v::vs,a,b,_,c,j,h=>by
  have aH:(v::vs).length=vs.length+1:=rfl;show putCells ((a++(b++c)).set (a.length+j) v) (a.length+j+1) vs=a++(putCells (b.set j v) (j+1) vs++c);rw[List.set_append_right _ _ axs,show a.length+j-a.length=j by omega,List.set_append_left _ _ axs,aBD];exact SD vs a (b.set j v) rfl c (j+1) (by rw[aAN];omega)
theorem akl:∀(vs:List ag) (b:List ag) (j:Nat),(putCells b j vs).length=b.length
 |[],_,_=>rfl
 |v::vs,b,j=>by
  show(putCells (b.set j v) (j+1) vs).length=_;rw[akl vs,aAN]
def ky(z:Nat)(rows:List (List ag)):Prop:=∀r∈rows,r.length=z
theorem ky.len{z:Nat}:∀{rows:List (List ag)},ky z rows->rows.flatten.length=rows.length*z
 |[],_=>axt
 |r::rows,h=>by
  have:=ky.len (rows:=rows) (λx ak=>h x (aAG _ ak));have h2:=h r aAr;rw[List.flatten_cons,az6,this,h2,az0,aAD];omega
theorem ky.cut{z:Nat}:∀{rows:List (List ag)},ky z rows->∀{i:Nat} (h:i<rows.length),∃a b,rows.flatten=a++(rows[i]++b)/\a.length=i*z/\∀fJ,(rows.set i fJ).flatten=a++(fJ++b)
 |r::rows,_,0,_=>⟨[],rows.flatten,rfl,axt,λfJ=>rfl⟩
 |r::rows,aQ,i+1,h=>by
  obtain⟨a,b,h1,h2,av⟩:=ky.cut (rows:=rows) (λx ak=>aQ x (aAG _ ak)) (i:=i) (aCB h);refine⟨r++a,b,?_,?_,λfJ=> ?_⟩
  .show r++rows.flatten=_;rw[h1,aAJ];rfl
  .rw[az6,h2,aQ r aAr,aAD];omega
  .show r++(rows.set i fJ).flatten=_;rw[av,aAJ]
theorem ky.set{z:Nat}{rows:List (List ag)}(aQ:ky z rows)(i:Nat){r:List ag}(aw:r.length=z):ky z (rows.set i r):=λx ak=>by
 rcases aBr ak with h|rfl
 .exact aQ x h
 omega
theorem ky.put{z:Nat}{rows:List (List ag)}(aQ:ky z rows){i:Nat}(h:i<rows.length){j:Nat}{vs:List ag}(aL:j+vs.length<=z):putCells rows.flatten (i*z+j) vs=(rows.set i (putCells rows[i] j vs)).flatten:=by
 obtain⟨a,b,h1,h2,av⟩:=aQ.cut h;rw[h1,av,<-h2];exact SD vs a _ rfl b j (by rw[aQ _ (azT h)];omega)
theorem ky.get{z:Nat}{rows:List (List ag)}(aQ:ky z rows){i:Nat}(h:i<rows.length){j:Nat}(aL:j<z):rows.flatten.getD (i*z+j) .undef=rows[i].getD j .undef:=by
 obtain⟨a,b,h1,h2,_⟩:=aQ.cut h;have:=aQ _ (azT h);grind
theorem ky.row{z:Nat}{rows:List (List ag)}(aQ:ky z rows){i:Nat}(h:i<rows.length):(rows.flatten.drop (i*z)).take z=rows[i]:=by
 obtain⟨a,b,h1,h2,_⟩:=aQ.cut h;have:=aQ _ (azT h);simp_all
theorem ky.sub{z:Nat}{rows:List (List ag)}(aQ:ky z rows){i:Nat}(h:i<rows.length){j n:Nat}(aL:j+n<=z):(rows.flatten.drop (i*z+j)).take n=(rows[i].drop j).take n:=by
 obtain⟨a,b,h1,h2,_⟩:=aQ.cut h;have:=aQ _ (azT h);rw[h1,<-h2,<-aBT,List.drop_left,List.drop_append_of_le_length axs,List.take_append_of_le_length axv]
section
variable {ad:bn}(h:ad=bn.bY){z:Nat}{rows:List (List ag)}(aQ:ky z rows){i:Nat}(hi:i<rows.length)
include h
theorem qJ(i z:Nat):ad.lW 0 (Int.ofNat i) z=i*z:=by
 simp_all[tG]
theorem pI(a b:Nat):ad.lp a b=a+b:=axT
include aQ hi
theorem SE{j n:Nat}(aL:j+n<=z):ad.ic (i*z+j) n rows.flatten true=true:=by
 rw[(tG h).2.1,azO ?_];rfl;rw[aQ.len];have:(i+1)*z<=rows.length*z:=aAl _ hi;grind
theorem Kt{j n:Nat}(aL:j+n<=z):ad.mB true (i*z+j) n rows.flatten true=true:=by
 rw[(tG h).2.2.1,azO ?_];rfl;rw[aQ.len];have:(i+1)*z<=rows.length*z:=aAl _ hi;grind
theorem akm{j:Nat}(aL:j<z):ad.zg (i*z+j) rows.flatten=true:=by
 rw[(tG h).2.2.2.1,azO ?_];rw[aQ.len];have:(i+1)*z<=rows.length*z:=aAl _ hi;grind
theorem SF:ad.pF rows.flatten (i*z) z=cE (.agg rows[i]):=by
 subst h;show cE (.agg ((rows.flatten.drop _).take _))=_;rw[aQ.row hi]
theorem SG{j n:Nat}(aL:j+n<=z):ad.pF rows.flatten (i*z+j) n=cE (.agg ((rows[i].drop j).take n)):=by
 subst h;show cE (.agg ((rows.flatten.drop _).take _))=_;rw[aQ.sub hi aL]
theorem akn{j:Nat}(aL:j<z):ad.j4 rows.flatten (i*z+j)=snap (rows[i].getD j .undef):=by
 subst h;show snap (rows.flatten.getD _ _)=_;rw[aQ.get hi aL]
theorem ako{j:Nat}(aL:j<z):ad.B9 rows.flatten (i*z+j)=rows[i].getD j .undef:=by
 subst h;show rows.flatten.getD _ _=_;rw[aQ.get hi aL]
theorem akp{j:Nat}(aL:j<z):ad.B' rows.flatten (i*z+j)=some (rows.set i (rows[i].set j .undef)).flatten:=by
 subst h;exact congrArg some (aQ.put hi (j:=j) (vs:=[.undef]) aL)
theorem Ku{j:Nat}{vs:List ag}(aL:j+vs.length<=z):ad.ln rows.flatten (i*z+j) vs=some (rows.set i (putCells rows[i] j vs)).flatten:=by
 subst h;exact congrArg some (aQ.put hi aL)
end
open Go.RowKit Go.Sort
section
variable {P:Program}{gl:Nat->List D}{w:World}{G:bJ}{ρ:List Nat}
def Fv:List D:=Lib.pow10Tab.map λz=>.int .u64 z
structure Fw(P:Program)(gl:Nat->List D)(f tH:Nat):Prop where
 name:P.globalNamed "internal/strconv.uint64pow10" =some tH
 tab:gl tH=Fv
 all:∀(n:Int),-9223372036854775808<=n->n<=9223372036854775807->∀w:World,Lib.TabIs P w "internal/strconv.uint64pow10" .u64 Lib.pow10Tab->
  Calls P f #[.int .i64 n] w λe w'=>e=.returned (.string ⟨(Lib.itoa n).toArray⟩)/\Below w.heap.size w w'
theorem SH{k:IntKind}:∀{zs:List Int} {vs:List Value},cn w G vs (zs.map λz=>.int k z)->vs=zs.map λz=>.int k z
 |[],_,h=>by cases h;rfl
 |z::zs,_,h=>by
  cases h with
  |cons v _ vs _ h1 h2=>
   cases h1;rw[SH h2];rfl
theorem akq{f tH:Nat}(J:Fw P gl f tH)(aE:o5 gl w G):Lib.TabIs P w "internal/strconv.uint64pow10" .u64 Lib.pow10Tab:=by
 have h1:=aE.1 tH;have h2:=aE.2 tH;rw[J.tab]at h1 h2;have aH:(Fv).length=20:=by grind[Fv,Lib.pow10Tab_length]
 rcases h2 with h2|⟨c,E,fz,⟨_,_,h2⟩,av⟩
 .omega
 .generalize hp:Value.pointer (some ⟨tH,0,none⟩)=q at h1;cases h1 with
  |eY b base off vs cs aZ bW=>
   simp at hp;obtain⟨rfl,hp⟩:=hp;have aq:base=0:=axs;have jf:=SH bW;have om:vs.length=20:=by grind[Lib.pow10Tab_length]
   unfold Lib.TabIs World.var?;rw[J.name];simp[aBZ,h2,azJ];apply Array.ext
   .simp_all
   .intro j dh h6;have h7:vs[j]?=some (vs[j]' axs):=azQ _;have:=(aZ j _ h7).1;unfold World.cell? at this;grind
theorem akr{f tH:Nat}{n:Int}{s:aV}(bm:gL P f)(J:Fw P gl f tH)(h0: -9223372036854775808<=n)(h1:n<=9223372036854775807):bM P gl f [.d (.int .i64 n)] s (.d (.str (Lib.itoa n))) s:=by
 refine u0 bm λw G ρ vs cq aE hv=> ?_;cases hv with
 |cons v1 _ o7 _ h2 av=>
  cases av;cases h2 with
  |d _ _ h2=>
   cases h2;refine⟨_,J.all n h0 h1 w (akq J aE),?_⟩;rintro e w' ⟨rfl,aq⟩;exact⟨_,rfl,λ_=>.d _ _ (.str _ _ rfl),aq⟩
theorem Kv:∀(k n:Nat),n<10^(k+1)->(Lib.decDigits n).length<=k+1
 |0,n,h=>by simp_all[Lib.decDigits]
 |k+1,n,h=>by
  rw[Lib.decDigits];split
  .simp
  .have:=Kv k (n/10) axs;simp_all
theorem aks{n:Int}(h0: -9223372036854775808<=n)(h1:n<=9223372036854775807):(Lib.itoa n).length<=20:=by
 unfold Lib.itoa;split
 .have:=Kv 18 n.natAbs axs;simp_all
 .have:=Kv 18 n.toNat axs;omega
end
section
variable {P:Program}{gl:Nat->List D}
def Kw(P:Program)(f:Nat):Prop:=∀(s:ByteArray) (c:Int) (w:World),Calls P f #[.string s,.int .u8 c] w λe w'=>e=.returned (.int .i64 (Lib.indexByte s.data.toList c.toNat.toUInt8))/\w'=w
theorem akt{f:Nat}{bs:List UInt8}{c:Int}{s:aV}(bm:gL P f)(J:Kw P f):bM P gl f [.d (.str bs),.d (.int .u8 c)] s (.d (.int .i64 (Lib.indexByte bs c.toNat.toUInt8))) s:=by
 refine u0 bm λw G ρ vs cq aE hv=> ?_;cases hv with
 |cons v1 _ o7 _ h2 av=>
  cases av with
  |cons v3 _ auS _ aZ bW=>
   cases bW;cases h2 with
   |d _ _ h2=>
    cases h2 with
    |str b _ aq=>
     cases aZ with
     |d _ _ aZ=>
      cases aZ;refine⟨_,J b c w,?_⟩;rintro e w' ⟨rfl,rfl⟩;exact⟨_,rfl,λ_=>by rw[aq];exact .d _ _ (.int _ _),Below.refl _ _⟩
theorem SI:∀(l:List UInt8) (c:UInt8),Lib.indexByte l c= -1\/∃k:Nat,k<l.length/\Lib.indexByte l c=Int.ofNat k
 |[],_=>.inl rfl
 |b::l,c=>by
  unfold Lib.indexByte;split
  .exact .inr ⟨0,axt,rfl⟩
  .split
   .exact .inl rfl
   .rename_i h1 h2;rcases SI l c with h|⟨k,au,h⟩
    .rw[h]at h2;exact absurd rfl h2
    .exact .inr ⟨k+1,by simp;omega,by rw[h];rfl⟩
def Fx(P:Program)(f:Nat):Prop:=(∀(qF off cap:Nat) (zs:List Int) (w:World),Holds (Value.int .i64) w qF off zs.toArray->qF<w.heap.size->zs.length<4611686018427387904->
 Calls P f #[.slice (some ⟨qF,off,none⟩) zs.length cap] w λe w'=>e=.returned (.tuple #[])/\∃n os,w'=grow (putRow (Value.int .i64) (Sort.ahead w n) qF off (zs.mergeSort λx y=>decide (x<=y)).toArray) os)/\
 ∀(p:Option Addr) (cap:Nat) (w:World),Calls P f #[.slice p 0 cap] w λe w'=>e=.returned (.tuple #[])/\w'=w
theorem aku{w:World}{n b:Nat}{os:Array Obj}{zs:List Int}{c:Array Value}{E:TypeId}{fz:Nat×Nat}(aq:w.heap[b]?=some (.cells c E fz)):
  (grow (putRow (Value.int .i64) (Sort.ahead w n) b 0 zs.toArray) os).heap[b]?=some (.cells (Sort.putCells (Value.int .i64) 0 zs.toArray c) E fz):=by
 have aB:=(aAk.1 aq).1;unfold grow putRow mapBlock;rw[Array.getElem?_append_left axu,aBG,aAa rfl];show(w.heap[b]?).map _=_;rw[aq];rfl
theorem akv{w:World}{n b k:Nat}{os:Array Obj}{zs:List Int}(au:k<w.heap.size)(cB:k≠b):
  (grow (putRow (Value.int .i64) (Sort.ahead w n) b 0 zs.toArray) os).heap[k]?=w.heap[k]?:=by
 unfold grow putRow mapBlock;rw[Array.getElem?_append_left axu,aBG,aAc (λh=>cB h.symm)];rfl
theorem akw{f:Nat}(bm:gL P f)(J:Fx P f)(zs:List Int)(aQ:zs.length<=1073741824):
  bM P gl f [.aS 0 0 zs.length zs.length 1] [.box (zs.map λz=>ag.d (.int .i64 z))] (.tuple []) [.box ((zs.mergeSort λx y=>decide (x<=y)).map λz=>ag.d (.int .i64 z))]:=by
 refine⟨bm,λw G ρ vs cq aE aB hv=> ?_⟩;cases hv with
 |cons v1 _ o7 _ h1 h2=>
  cases h2;cases h1 with
  |aS _ _ _ _ et _ b hi hR cm=>
   obtain⟨c,E,fz,aq,hfz,dB,hlen,dt⟩:=(show dJ w G ρ b (.obj 0) (.dx 0) _ from cq.2 0 b _ hi rfl);rw[azG]at hlen;have JU:=(aAk.1 aq).1;have hcell:∀j (h:j<zs.length),c[j]?=some (.int .i64 zs[j]):=λj h=>by
    have ay:c[j]?=some (c[j]' axs):=aAx _;have:=dt j _ (.d (.int .i64 zs[j])) ay axt;rw[ay];generalize c[j]' axs=v at*;cases (show dc w G ρ v (.d (.int .i64 zs[j]))from this)with
    |d _ _ h=>cases h;rfl
   have eR:Holds (Value.int .i64) w b 0 zs.toArray:=λj aL=>by
    have aL:=axs;rw[aAy];refine⟨?_,?_⟩
    .grind[cell_of_block]
    .rw[uy aq];grind
   refine(J.1 b 0 et zs w eR JU axs).mono ?_;rintro e w' ⟨rfl,n,os,rfl⟩;obtain⟨ys,BR⟩:∃ys,ys=zs.mergeSort λx y=>decide (x<=y):=⟨_,rfl⟩;have rL:ys.length=zs.length:=axu;rw[<-BR];have iY:=aku (n:=n) (os:=os) (zs:=ys) aq;have jJ:(Sort.putCells (Value.int .i64) 0 ys.toArray c).size=c.size:=by grind[Sort.putCells]
   obtain⟨bU,b4,dm⟩:=J0 (v:=.bool false) (G':=G) (s':=[b3.box (ys.map λz=>ag.d (.int .i64 z))]) (o':=.box (ys.map λz=>ag.d (.int .i64 z))) cq aB hi rfl dB (λg h=>by grind[Value.ownBlock])
    (w':=grow (putRow (Value.int .i64) (Sort.ahead w n) b 0 ys.toArray) os)
    ⟨rfl,rfl,axt,λk au cB _=>akv au cB⟩ (λ_=>.inl rfl) (λk m lL eM=>by
     rcases lL with rfl|lL
     .obtain⟨c2,uz,qm,q1,bK⟩:=eM;rw[aq]at q1;simp at q1;obtain⟨rfl,_,_⟩:=q1;exact⟨_,_,_,iY,axs⟩
     grind[Value.ownBlock])
    (show dJ _ _ _ _ _ _ _ from⟨_,E,fz,iY,λj aL=>hfz j axs,dB,axu,λj v x hv ak=>by
     rw[aAK]at ak;have gB:j<ys.length:=axv;rw[azQ gB]at ak;simp at ak;subst ak;have wz:j<c.size:=axs;unfold Sort.putCells at hv;rw[Array.getElem?_mapIdx,aAx wz]at hv;have yl:0<=j/\j<0+ys.toArray.size:=⟨azF _,axu⟩;simp only[aAL,azJ,aAa yl]at hv;subst hv;have:ys.toArray[j-0]! =ys[j]:=axu;rw[this];exact .d _ _ (.int _ _)⟩)
   exact⟨_,G,ρ,rfl,.tuple [] _ .nil,bU,b4,dm,λ_ _ h=>h⟩
theorem akx{f:Nat}(bm:gL P f)(J:Fx P f):bM P gl f [.d (.list 1 [])] [] (.tuple []) []:=by
 refine u0 bm λw G ρ vs cq aE hv=> ?_;cases hv with
 |cons v1 _ o7 _ h1 h2=>
  cases h2;cases h1 with
  |d _ _ h1=>
   have:∃p cap,v1=.slice p 0 cap:=by
    cases h1 with
    |kK=>simp
    |list b off n cap _ _ vs h=>simp_all
   obtain⟨p,cap,rfl⟩:=this;refine⟨_,J.2 p cap w,?_⟩;rintro e w' ⟨rfl,rfl⟩;exact⟨_,rfl,λ_=>.tuple [] _ .nil,Below.refl _ _⟩
end
open Go.RowKit Go.Sort Go.Lib
section
variable {P:Program}{gl:Nat->List D}
def Kx(P:Program)(f sz T:Nat):Prop:=∃(i0:TypeInfo) (z:Value),i0.size=sz/\z.cells.size=sz/\0<sz/\i0.bytes<=1000/\
 (∀(a:Option Addr) (w:World),Calls P f #[.slice a 0 0,.int .i64 0] w λe w'=>e=.returned (.slice a 0 0)/\w'=w)/\
 ∀(a:Option Addr) (n:Nat) (w:World),0<n->n*i0.bytes<=140737488355328->n<=4611686018427387904->Calls P f #[.slice a 0 0,.int .i64 n] w λe w'=>
  e=.returned (.slice (some ⟨w.heap.size,0,none⟩) 0 (grownCap w n 0 T))/\w'=w.drew.alloc (.cells (Builtin.zeroCells z.cells n++Builtin.zeroCells z.cells (grownCap w n 0 T-n)) T)
theorem aky{f sz T n:Nat}(bm:gL P f)(J:Kx P f sz T)(az:n<=1048576):
  bM P gl f [.own sz [],.d (.int .i64 (Int.ofNat n))] [] (.gE sz) []:=by
 obtain⟨i0,z,h1,h2,av,aZ,bW,dh⟩:=J;refine⟨bm,λw G ρ vs cq aE aB hv=> ?_⟩;cases hv with
 |cons v1 _ o7 _ q1 bK=>
  cases bK with
  |cons v2 _ ot _ cI ep=>
   cases ep;cases cI with
   |d _ _ cI=>
    cases cI;cases q1 with
    |nil a _=>
     rcases aB3 n with rfl|gq
     .refine(bW a w).mono ?_;rintro e w' ⟨rfl,rfl⟩;exact⟨_,G,ρ,rfl,.inr ⟨a,rfl⟩,cq,aB,Good.refl aB,λ_ _ h=>h⟩
     .have aq:n*i0.bytes<=140737488355328:=aAs (Nat.mul_le_mul az aZ) axw;refine(dh a n w gq aq axs).mono ?_;rintro e w' ⟨rfl,rfl⟩;have kz:ga w (.cells (Builtin.zeroCells z.cells n++Builtin.zeroCells z.cells (grownCap w n 0 T-n)) T) (w.drew.alloc (.cells (Builtin.zeroCells z.cells n++Builtin.zeroCells z.cells (grownCap w n 0 T-n)) T)):=⟨rfl,rfl,rfl⟩;have hR:=grownCap_ge w n 0 T;refine⟨_,fD w G .res 0,ρ,rfl,.inl ⟨w.heap.size,0,grownCap w n 0 T,_,T,(0,0),[],rfl,azF _,kz.new,λj _ h=>axs,?_,av,by rw[fD,hQ];simp,λd a6=>(aAi a6).elim,λj v hv=>axu,.nil⟩,⟨cq.1,λi b o _ bb=>axu⟩,kz.lt aB,kz.good aB axt,λ_ _ h=>h⟩;have aj:(Builtin.zeroCells z.cells n++Builtin.zeroCells z.cells (grownCap w n 0 T-n)).size=n*sz+(grownCap w n 0 T-n)*sz:=ayc;rw[aj,<-aAD];simp_all
def aCC:=@Classical.choose_spec
theorem ax6(h:p:=by simp at hv):p:=h
theorem ayG(h:p:=by grind[IntKind.wrap,IntKind.bits]):p:=h
def aAg:=@decide_eq_false
def aAV:=@Or.elim
def az1:=@Exists.elim
def aCD:=@List.drop_zero
theorem ayi(h:p:=by cases x;rfl):p:=h
theorem ays(h:p:=by grind[Step.d]):p:=h
def aAF:=@Bool.not_eq_false'
theorem ax7(h:p:=by show 0+_<=_;omega):p:=h
theorem ay4(h:p:=by have:=h1.w (az.ch he);omega):p:=h
theorem ayt(h:p:=by rw[az5];exact e):p:=h
theorem axC(h:p:=by grind[e4]):p:=h
theorem axx(h:p:=by simp_all[aI]):p:=h
theorem axI(h:p:=by simp only[aI ae,azM,az2];omega):p:=h
theorem axF(h:p:=by simp only[aI ae,azN,az6,az0,aAz];omega):p:=h
theorem axH(h:p:=by simp only[aI ae,azN,az0,aAz];omega):p:=h
def aAS:=@List.take_add_one
theorem axJ(h:p:=by grind[dS]):p:=h
theorem axK(h:p:=by rw[ae,e8,az5];rfl):p:=h
theorem ax1(h:p:=by simp only[aI ae,az6,az0,aAz];omega):p:=h
theorem axA(h:p:=by simp only[aI ae];decide):p:=h
theorem azn(h:p:=by simp only[aI ae,az2];simp):p:=h
theorem axR(h:p:=by simp only[aI ae,az5];rfl):p:=h
theorem ayH(h:p:=by simp only[aI ae]):p:=h
theorem azo(h:p:=by simp only[aI ae,az2,azM]at t2;omega):p:=h
theorem ax8(h:p:=by simp only[aI ae];rfl):p:=h
theorem axL(h:p:=by rw[cd]):p:=h
theorem ayJ(h:p:=by rw[jy];exact(oN ae (by simp) (by grind)).trans (Int.zero_add _)):p:=h
theorem ax2(h:p:=by simp only[aI ae,aAF,azN,azM]at i';omega):p:=h
def aCh:=@List.length_filter_le
def aCJ:=@List.filter_append
theorem ayj(h:p:=by simp only[azM];omega):p:=h
theorem azp(h:p:=by first|omega|(simp only[aI ae,az6,az0,aAz];omega)):p:=h
theorem azq(h:p:=by obtain⟨s,_,rfl⟩:=aAn.1 hv;simp):p:=h
def aA4:=@Nat.ble_eq_true_of_le
theorem axz(h:p:=by subst ae;rfl):p:=h
def aBd:=@List.map_map
def aCe:=@List.getElem_cons_succ
def aCE:=@List.getElem_cons_zero
theorem ayu(h:p:=by rw[nY ae];rfl):p:=h
theorem ayK(h:p:=by rw[(eX ae).2.1];simp_all):p:=h
theorem ayv(h:p:=by rw[(eX ae).2.1];rfl):p:=h
theorem azr(h:p:=by simp only[aI ae,azH,azN,azM];omega):p:=h
theorem ayk(h:p:=by rw[eM];simp only[aI ae,azH,azN,azM];omega):p:=h
theorem ay5(h:p:=by rw[oN ae (by simp only[azM];omega) (by simp only[azM];omega)];exact Int.add_zero _):p:=h
theorem ay6(h:p:=by simp only[aI ae,aAT,aBn];omega):p:=h
theorem ay7(h:p:=by rw[eM];simp only[aI ae,aAT,aBn,azM,Int.toNat_natCast];omega):p:=h
theorem azs(h:p:=by simp only[aI ae,decide_true,aBy,azH,azN,azM];omega):p:=h
theorem ayl(h:p:=by grind[oR]):p:=h
def aBV:=@Int.natCast_nonneg
def aA5:=@Int.ofNat_lt
theorem azt(h:p:=by subst h;exact azO (aA5.2 hh)):p:=h
theorem azu(h:p:=by subst h;exact aAg λx=>hh (aA5.1 x)):p:=h
theorem ayL(h:p:=by show h+1<=j;omega):p:=h
theorem ayM(h:p:=by show j-(h+1)<j-i;omega):p:=h
theorem ayN(h:p:=by show i<=h;omega):p:=h
theorem ayO(h:p:=by show h-i<j-i;omega):p:=h
def aCf:=@List.length_eq_zero_iff
theorem azv(h:p:=by subst ae;exact aA4 (by omega)):p:=h
def aCF:=@List.length_replicate
def aCG:=@Int.ofNat.inj
theorem ay8(h:p:=by rw[aAN];exact aH):p:=h
theorem ay9(h:p:=by rw[ae,cX,az5];rfl):p:=h
def aCH:=@List.getElem_map
theorem ayP(h:p:=by grind[xQ]):p:=h
theorem ayw(h:p:=by grind[z8]):p:=h
def aCg:=@List.map_set
def aCI:=@List.getElem_set_self
def aCL:=@List.set_getElem_self
theorem ay'(h:p:=by rw[<-pZ];try kernel_rfl):p:=h
theorem azw(h:p:=by rw[aCL,<-eM];try kernel_rfl):p:=h
theorem aza(h:p:=by rw[xQ];exact hi):p:=h
theorem azb(h:p:=by subst ae;subst h2;cases h):p:=h
def aBs:=@List.filter_cons_of_pos
def aBC:=@List.filter_cons_of_neg
theorem azx(h:p:=by unfold gh;rw[azH];exact⟨azO (aBV _),azO (aA5.2 h)⟩):p:=h
def aCK:=@of_decide_eq_false
theorem azy(h:p:=by have:(l::ls).length=ls.length+1:=rfl;omega):p:=h
theorem azz(h:p:=by have:(y::ys).length=ys.length+1:=rfl;omega):p:=h
theorem azA(h:p:=by rw[aAo,aAm e,<-aAo];exact av):p:=h
theorem azB(h:p:=by rw[aAq (by rw[b9.len];exact dM)]):p:=h
theorem azC(h:p:=by show k3 n (i*33554432+0) M;rw[aAj];exact cd):p:=h
theorem azD(h:p:=by subst ae;rw[jJ];exact(azG _).trans lM):p:=h
theorem azE(h:p:=by rw[jJ];exact dv (by rw[lM];exact h)):p:=h
theorem azc(h:p:=by rw[nB];exact sr ae qE (by decide)):p:=h
theorem ayQ(h:p:=by show q-(i+1)<q-i;omega):p:=h
theorem ayR(h:p:=by subst ae;show(!decide (e=0))=true;rw[aAg he];rfl):p:=h
def jz(q p:Prop):Prop:=q->p
theorem jz.rfl{p:Prop}:jz p p:=id
theorem Fy{q p:Prop}(h:jz q p:=by(conv=>arg 2;cbv);first|(show jz _ (Exists _);exact akz)|(show jz _ (And _ _);exact akA)|((first|simp -proj only[‹_=true›]|simp -proj only[‹_=false›]|simp -proj only[‹_=some _›]|simp -proj only[‹_=none›]|simp -proj only[t2]|simp -proj only[t1]|simp -proj only[bh]|simp -proj only[a2]|simp -proj only[a3]|simp -proj only[bq]|simp -proj only[aR]|simp -proj only[bO]|simp -proj only[t3]|simp -proj only[c1]|simp -proj only[c2]|simp -proj only[c3]|simp -proj only[t5]|simp -proj only[d1]|simp -proj only[d2]|simp -proj only[d3]|simp -proj only[p1]|simp -proj only[t4]|simp -proj only[g1]|simp -proj only[t6]|simp -proj only[t0]|simp -proj only[iT]|simp -proj only[gb]|simp -proj only[g2]|simp -proj only[bU]|simp -proj only[ey]|simp -proj only[b0]|simp -proj only[b7]|simp -proj only[c7]|simp -proj only[g3]|simp -proj only[dZ]|simp -proj only[w1]|simp -proj only[bS]|simp -proj only[cT]|simp -proj only[f1]|simp -proj only[t7]|simp -proj only[fR]|simp -proj only[c8]|simp -proj only[r0]|simp -proj only[fp]|simp -proj only[du]|simp -proj only[t8]|simp -proj only[lr]|simp -proj only[f2]|simp -proj only[gd]|simp -proj only[b4]|simp -proj only[i']|simp -proj only[kA]|simp -proj only[kW]|simp -proj only[f0]|simp -proj only[q1]|simp -proj only[gU]|simp -proj only[dm]|simp -proj only[v1]|simp -proj only[gS]|simp -proj only[h1]|simp -proj only[v2]|simp -proj only[v3]|simp -proj only[v4]|simp -proj only[qK]|simp -proj only[h2]|simp -proj only[u8]|simp -proj only[iP]|simp -proj only[av]|simp -proj only[iy]|simp -proj only[ku]|simp -proj only[g']|simp -proj only[z2]|simp -proj only[z3]|simp -proj only[f3]|simp -proj only[iZ]|simp -proj only[bK]|simp -proj only[p0]|simp -proj only[Fz]|simp -proj only[FA]|simp -proj only[tC]|simp -proj only[v5]|simp -proj only[cI]|simp -proj only[Jp]|simp -proj only[g0]|simp -proj only[e9]|simp -proj only[ep]|simp -proj only[gR]|simp -proj only[akB]|simp -proj only[kr]|simp -proj only[m1]|simp -proj only[m2]|simp -proj only[ov]|simp -proj only[xc]|simp -proj only[aj]|simp -proj only[aD]|simp -proj only[aW]|simp -proj only[g4]|simp -proj only[nL]|simp -proj only[qq]|simp -proj only[s7]|simp -proj only[pj]|simp -proj only[s9]|simp -proj only[Ci]|simp -proj only[ta]);exact Fy)|exact jz.rfl):jz q p:=h
theorem akz{q:Prop}{f:Nat}{dL:List ag}{s:aV}{r:ag}{t:aV}{K:ag->aV->Prop}(h:bM P gl f dL s r t:=by assumption)(k:jz q (K r t):=by exact Fy):jz q (∃r s2,bM P gl f dL s r s2/\K r s2):=λx=>⟨r,t,h,k x⟩
theorem akA{q a b:Prop}(h:a:=by first|assumption|(simp only[aI ae,azH,azN,azG,az0,aAz,az6,aBO,true_and,azM];omega))(k:jz q b:=by exact Fy):jz q (a/\b):=λx=>⟨h,k x⟩
theorem ai{p q:Prop}(k:q)(h:jz q p:=by exact Fy):p:=h k
theorem FB{q p:Prop}(h:jz q p:=by(conv=>arg 2;whnf);first|(show jz _ (_=true/\_);exact akC)|(show jz _ (cond _ _ _);exact akD)|exact jz.rfl):jz q p:=h
theorem akC{q a:Prop}{b:Bool}(h:b=true:=by kernel_rfl)(k:jz q a:=by exact FB):jz q (b=true/\a):=λx=>⟨h,k x⟩
theorem akD{q A B:Prop}{b c:Bool}(h:b=c:=by first|assumption|exact Sk axG)(k:jz q (cond c A B):=by exact FB):jz q (cond b A B):=λx=>h▸k x
theorem bj{p q:Prop}(k:q)(h:jz q p:=by exact FB):p:=h k
theorem cj{P:Program}{gl:Nat->List D}{f:Nat}{dL B7:List ag}{s s':aV}{r:ag}{t:aV}{K:ag->aV->Prop}{q:Prop}(h:bM P gl f dL s r t)(k:q)(h1:B7=dL:=by kernel_rfl)(h2:s'=s:=by kernel_rfl)(au:jz q (K r t):=by exact FB):∃r s2,bM P gl f B7 s' r s2/\K r s2:=by
 subst h1;subst h2;exact⟨r,t,h,au k⟩
theorem gV{α:Type}{R:α->ag}{S:α->aV}{f:Nat}{dL:List ag}{s:aV}(h:∃r s',(∃x,r=R x/\s'=S x)/\bM P gl f dL s r s'):∃x,bM P gl f dL s (R x) (S x):=by
 obtain⟨_,_,⟨x,rfl,rfl⟩,h⟩:=h;exact⟨x,h⟩
theorem fL{α:Type}{Q:α->Prop}{R:α->ag}{S:α->aV}{f:Nat}{dL:List ag}{s:aV}(h:∃r s',(∃x,Q x/\r=R x/\s'=S x)/\bM P gl f dL s r s'):∃x,Q x/\bM P gl f dL s (R x) (S x):=by
 obtain⟨_,_,⟨x,h1,rfl,rfl⟩,h⟩:=h;exact⟨x,h1,h⟩
theorem tI{α β:Type}{R:α->β->ag}{S:α->β->aV}{f:Nat}{dL:List ag}{s:aV}(h:∃r s',(∃x y,r=R x y/\s'=S x y)/\bM P gl f dL s r s'):∃x y,bM P gl f dL s (R x y) (S x y):=by
 obtain⟨_,_,⟨x,y,rfl,rfl⟩,h⟩:=h;exact⟨x,y,h⟩
theorem Ky{α β:Type}{Q:α->β->Prop}{R:α->β->ag}{S:α->β->aV}{f:Nat}{dL:List ag}{s:aV}(h:∃r s',(∃x y,Q x y/\r=R x y/\s'=S x y)/\bM P gl f dL s r s'):∃x y,Q x y/\bM P gl f dL s (R x y) (S x y):=by
 obtain⟨_,_,⟨x,y,h1,rfl,rfl⟩,h⟩:=h;exact⟨x,y,h1,h⟩
theorem Kz{α β Cj:Type}{Q:α->β->Cj->Prop}{R:α->β->Cj->ag}{S:α->β->Cj->aV}{f:Nat}{dL:List ag}{s:aV}(h:∃r s',(∃x y z,Q x y z/\r=R x y z/\s'=S x y z)/\bM P gl f dL s r s'):∃x y z,Q x y z/\bM P gl f dL s (R x y z) (S x y z):=by
 obtain⟨_,_,⟨x,y,z,h1,rfl,rfl⟩,h⟩:=h;exact⟨x,y,z,h1,h⟩
theorem fixF{α:Type}{S:α->af}{J:α->Prop}{r2:α->Nat}{n:Nat}{st:af}(b:α)(aq:J b)(he:st=S b:=by kernel_rfl)(hm:r2 b<n:=by first|omega|(dsimp only;omega)):∃m,m<n/\b6 S J r2 m st:=⟨_,hm,b,aq,rfl,he⟩
end
end Go.aJ
