/- Part of parts_said. -/
import Derived.Test.YthffhbakgmemaaaGreatDoorM5
import Derived.Deep.DeepLaidRun
import Derived.SevenTiedAt
import Derived.Lib.AppendIntMem
import Derived.Lib.AppendZerosOnto
set_option linter.defProp false
set_option maxRecDepth 100000
set_option maxHeartbeats 8000000
set_option linter.unusedSimpArgs false
set_option linter.unusedVariables false
namespace Go.aG
variable {p:Prop}
def aDM:=@Option.some.inj
def C9(x:Lit×DataW Unit):Option (List UInt8×D):=match x with
 |(.string b,.lit (.int k z))=>some (b,.int k z)
 |_=>none
def yj:List (List UInt8)->Bool
 |[]=>true
 |a::l=>!l.contains a&&yj l
def C'(P:Program):Nat->Nat->DataW Unit->Option (List D)
 |0,_,_=>none
 |n+1,t,d=>match P.underlying t,d with
  |some (.int _),.lit (.int k z)=>some [.int k z]
  |some .string,.lit (.string b)=>some [.str b]
  |some (.array m e),.agg ps=>cond (Nat.beq (P.cellsOf t) (m*P.cellsOf e)) ((ps.mapM (C' P n e)).bind λl=>cond (l.all λx=>Nat.beq x.length (P.cellsOf e)) (some l.flatten) none) none
  |some (.interface _),.iface _ _=>some [.ix]
  |some (.map k e),.map es=>match P.underlying k,P.underlying e with
   |some .string,some (.int _)=>(es.mapM C9).bind λl=>cond (yj (l.map (·.1))) (some [.lM (l.map λx=>.str x.1) (l.map (·.2))]) none
   |_,_=>none
  |_,_=>none
abbrev Da(l:List (List UInt8×D)):List (D×ah):=zD (l.map λx=>.str x.1) (l.map (·.2))
theorem TW(x:List UInt8×D)(l:List (List UInt8×D)):Da (x::l)=(.str x.1,.d x.2)::Da l:=rfl
theorem amp(aw:Bool)(c:List Nat)(k:D):(∀s,cond (fc aw (.str s)) (cG c k.cells [.str s]) none=none)\/∃d,∀s,fc aw (.str s)=true/\cG c k.cells [.str s]=some (decide (d=s)):=by
 cases aw with
 |true=>exact .inl λs=>rfl
 |false=>
  match c,k.cells with
  |[],[]=>exact .inl λs=>rfl
  |[],_::_=>exact .inl λs=>rfl
  |_::_,[]=>grind[cG]
  |[2],[.str p]=>exact .inr ⟨p,λs=>⟨rfl,by simp[cG]⟩⟩
  |[2],.str p::a::l=>grind[cG]
  |2::a::l,.str p::m=>grind[cG]
  |0::l,a::m=>grind[cG]
  |1::l,a::m=>grind[cG]
  |(n+3)::l,a::m=>simp_all[cG]
  |2::l,.bool _::m|2::l,.int _ _::m|2::l,.list _ _::m|2::l,.agg _::m|2::l,.dJ::m|2::l,.h9::m|2::l,.lL::m|2::l,.iK::m|2::l,.fn _::m|2::l,.e2 _ _::m|2::l,.iface _ _::m
  |2::l,.lM _ _::m|2::l,.ix::m=>grind[cG]
theorem amq{aw:Bool}{a:List Nat}{k:D}(h:∀s,cond (fc aw (.str s)) (cG a k.cells [.str s]) none=none)(x:List UInt8×D)(l:List (List UInt8×D))(i:Nat):e4 aw a k (Da (x::l)) i=none:=by
 rw[TW];have:=h x.1;simp[e4];cases au:fc aw (.str x.1)with
 |false=>rfl
 |true=>
  rw[au]at this;have c:(D.str x.1).cells=[.str x.1]:=rfl;simp_all
theorem Lx{aw:Bool}{c:List Nat}{k:D}{a:List UInt8}(h:∀s,fc aw (.str s)=true/\cG c k.cells [.str s]=some (decide (a=s))):∀(l:List (List UInt8×D)) (i:Nat),
  (e4 aw c k (Da l) i=some none/\∀x,x∈l->x.1≠a)\/∃j x,e4 aw c k (Da l) i=some (some (i+j))/\l[j]?=some x/\x.1=a
 |[],i=>.inl ⟨rfl,az7⟩
 |x::l,i=>by
  rw[TW];obtain⟨h1,g⟩:=h x.1;have o:(D.str x.1).cells=[.str x.1]:=rfl;simp only[e4,h1,aC0,o,g];by_cases m:a=x.1
  .simp only[m,decide_true];exact .inr ⟨0,x,rfl,rfl,rfl⟩
  .rcases Lx h l (i+1)with⟨n,d⟩|⟨j,y,n,d,f⟩
   .grind
   .exact .inr ⟨j+1,y,az9,az8,f⟩
theorem TX:∀{l:List (List UInt8×D)},yj (l.map (·.1))=true->∀{x y:List UInt8×D},x∈l->y∈l->x.1=y.1->x=y
 |[],_,x,y,ai,_,_=>az8
 |a::l,h,x,y,ai,c,e=>by
  simp[aDe,yj,aCx,aCX]at h;have f:∀z,z∈l->z.1≠a.1:=λz d g=>az9;rcases aCJ.1 ai with ai|ai<;>rcases aCJ.1 c with c|c
  .simp_all
  .simp_all
  .simp_all
  .exact TX h.2 ai c e
theorem ams{l m:List (List UInt8×D)}(hp:∀x,x∈m↔x∈l)(o:yj (l.map (·.1))=true):IX (m.map λx=>.str x.1) (m.map (·.2)) (l.map λx=>.str x.1) (l.map (·.2)):=by
 intro aw u k;rcases amp aw u k with h|⟨C,h⟩
 .cases l with
  |nil=>
   have:m=[]:=List.eq_nil_iff_forall_not_mem.2 λx z=>az8;simp_all
  |cons x l=>
   grind[amq]
 .have g:=Lx h l 0;have t:=Lx h m 0;refine⟨λA=> ?_,λj d n r=> ?_⟩
  .grind
  .rcases g with⟨a,_⟩|⟨E,x,a,c,w⟩
   .simp_all
   .rw[n]at a;simp at a;subst a;rw[aDC,c]at r;have v:=(hp x).2 (aC8 c);rcases t with⟨_,p⟩|⟨f,y,p,s,B⟩
    .simp_all
    .refine⟨f,az8,?_⟩;have:=TX o ((hp y).1 (aC8 s)) (aC8 c) az8;simp_all
theorem TY{H:Type}(x:Lit×DataW H):∀(l:List (Lit×DataW H)) (y:Lit×DataW H),y∈DataW.insert x l↔y=x\/y∈l
 |[],y=>by simp[DataW.insert]
 |z::l,y=>by
  simp[DataW.insert];split
  .simp
  .simp[aCJ,TY x l y];constructor
   .rintro(h|h|h)<;>simp[h]
   .rintro(h|h|h)<;>simp[h]
theorem Lz{H:Type}:∀(l:List (Lit×DataW H)) (y:Lit×DataW H),y∈l.foldr DataW.insert []↔y∈l
 |[],y=>az7
 |x::l,y=>by rw[List.foldr_cons,TY,Lz l y];simp
def yk(x:Lit×DataW Unit):List UInt8×D:=match x with
 |(.string b,.lit (.int k z))=>(b,.int k z)
 |_=>([],.dJ)
theorem amt{x:Lit×DataW Unit}{y:List UInt8×D}(h:C9 x=some y):yk x=y:=by
 unfold C9 at h;grind[yk]
theorem T0:∀{l:List (Lit×DataW Unit)} {r:List (List UInt8×D)},l.mapM C9=some r->l.map yk=r
 |[],r,h=>az8
 |x::l,r,h=>by
  simp only[aE8,aDt,aCL,aFs,aCz]at h;obtain⟨b,au,c,a,rfl⟩:=h;rw[aDe,amt au,T0 a]
section
variable {P:Program}{W:World}
theorem amu{k:Nat}{v:Value}{key:Lit}(a:P.underlying k=some .string)(h:keyOf P k v=some key):∃s:ByteArray,v=.string s/\key=.string s.data.toList:=by
 unfold keyOf at h;cases v<;>simp[mapKey,a]at h;simp_all
theorem amv{e:Nat}{v:Value}{a k:IntKind}{n:Int}(f:P.underlying e=some (.int a))(d:v.formed P e=true)(c:v.cells.toList=[.int k n]):v=.int k n:=by
 cases v<;>simp_all[Value.formed,Value.cells]
theorem amw{k e b G:Nat}{H:IntKind}{enc:TypeId×Value->Unit}{L:Nat->Bool}{es:List (Lit×DataW Unit)}{ps:List MemPlace}{l:List (List UInt8×D)}(J:P.underlying k=some .string)(S:P.underlying e=some (.int H)){E:Array MapEntry}{u:Nat}
  (au:W.heap[b]?=some (.map E u))
  (h1:((E.toList.mapM λx=>(keyOf P k x.key).bind λkey=>if x.val.formed P e then(DataW.trod enc P W 0 L false G e x.val.cells.toList).map λy=>((key,y.1),y.2)else none).bind λc=>
   let sorted:=(c.map (·.1)).foldr DataW.insert [];if DataW.rising sorted then some (DataW.map sorted,MemPlace.map b::c.flatMap (·.2))else none)=some (.map es,ps))
  (B:es.mapM C9=some l) (F:yj (l.map (·.1))=true):Rd W G0 (.map (some b)) (.lM (l.map λx=>.str x.1) (l.map (·.2))):=by
 obtain⟨c,w,o⟩:=aCL.1 h1;simp only at o;split at o
 .simp at o;have Q:=Lib.mapM_length w;have key:∀(j:Nat) (x:MapEntry),E.toList[j]?=some x->∃(s:ByteArray) (q:IntKind) (n:Int),x.key=.string s/\x.val=.int q n/\((c.map (·.1)).map yk)[j]?=some (s.data.toList,.int q n):=by
   intro j x a;obtain⟨y,N,A⟩:=Lib.mapM_at w j x a;obtain⟨Dc,C,p⟩:=aCL.1 A;obtain⟨s,M,rfl⟩:=amu J C;split at p
   .rename_i R;obtain⟨z,U,rfl⟩:=aDr.1 p;grind[DataW.trod_int,amv,yk]
   simp_all
  have K:IX (((c.map (·.1)).map yk).map λx=>.str x.1) (((c.map (·.1)).map yk).map (·.2)) (l.map λx=>.str x.1) (l.map (·.2)):=by
   refine ams (λx=> ?_) F;rw[<-T0 B,<-o.1];simp only[aCY];constructor
   .rintro⟨y,⟨z,d,rfl⟩,rfl⟩;exact⟨z.1,(Lz _ _).2 (aEV d),rfl⟩
   .rintro⟨y,f,rfl⟩;have:=(Lz _ _).1 f;grind
  refine .lM b (E.toList.map (·.key)) (E.toList.map (·.val)) _ _ _ _ ⟨E,u,⟨rfl,rfl,au⟩,rfl,rfl⟩ (.mk az8 λj v x m a=> ?_) (.mk az8 λj v x m a=> ?_) K
  .rw[aDC,aDr]at m a;obtain⟨y,f,rfl⟩:=m;obtain⟨z,d,rfl⟩:=a;obtain⟨s,q,n,t,r,g⟩:=key j y f;rw[d]at g;obtain rfl:=aDM g;rw[t];exact .str _ _ rfl
  .rw[aDC,aDr]at m a;obtain⟨y,f,rfl⟩:=m;obtain⟨z,d,rfl⟩:=a;obtain⟨s,q,n,t,r,g⟩:=key j y f;rw[d]at g;obtain rfl:=aDM g;rw[r];exact .int _ _
 simp_all
theorem T2(sz:Nat):∀(l:List (List D)) (cs:List Value),cs.length=l.length*sz->(∀x,x∈l->x.length=sz)->(∀(i:Nat) x,l[i]?=some x->cw W G0 ((cs.drop (i*sz)).take sz) x/\∀v,v∈(cs.drop (i*sz)).take sz->v.oneCell'=true)->cw W G0 cs l.flatten/\∀v,v∈cs->v.oneCell'=true
 |[],cs,h,_,_=>by
  have:cs=[]:=az8;subst this;exact⟨.nil,az7⟩
 |x::l,cs,h,ai,a=>by
  have bB:=a 0 x rfl;simp at bB;have c:(cs.drop sz).length=l.length*sz:=by
   grind[Nat.add_mul]
  have g:=T2 sz l (cs.drop sz) c (λy d=>ai y az9) (λi y d=>by
   have:=a (i+1) y az8;simp_all[aDx,Nat.add_comm])
  have f:=(aD6 sz cs).symm;refine⟨?_,λv j=> ?_⟩
  .rw[f];exact bB.1.append g.1
  grind
theorem amy{enc:TypeId×Value->Unit}{u:Nat->Bool}:∀(n f t:Nat) (cs:List Value) (d:DataW Unit) (ps:List MemPlace) (j:List D),
  DataW.trod enc P W 0 u false f t cs=some (d,ps)->C' P n t d=some j->cw W G0 cs j/\∀v,v∈cs->v.oneCell'=true:=by
 intro n;induction n with
 |zero=>simp_all[C']
 |succ n ih=>
  intro f t cs d ps j h1 a;cases f with
  |zero=>simp_all[DataW.trod]
  |succ f=>
   simp[C']at a;split at a
   .rename_i G k z hu;obtain⟨m,rfl,c,_⟩:=DataW.trod_int hu h1;obtain⟨⟨rfl,rfl⟩,_⟩:=c;simp at a;subst a;exact⟨.cons _ _ _ _ (.int _ _) .nil,aAs⟩
   .rename_i b hu;obtain⟨m,rfl,c,_⟩:=DataW.trod_string hu h1;obtain⟨rfl,_⟩:=c;simp at a;subst a;exact⟨.cons _ _ _ _ (.str _ _ rfl) .nil,aAs⟩
   .rename_i m e pl hu;cases au:Nat.beq (P.cellsOf t) (m*P.cellsOf e)with
    |false=>simp_all
    |true=>
     rw[au]at a;have au:=aCG au;simp[aC0,aCL]at a;obtain⟨l,g,a⟩:=a;cases p:(l.all λx=>Nat.beq x.length (P.cellsOf e))with
     |false=>simp_all
     |true=>
      rw[p]at a;simp at a;subst a;simp only[DataW.trod,hu]at h1;split at h1
      .rename_i L;obtain⟨w,r,o⟩:=aDr.1 h1;have K:w.map (·.1)=pl:=az8;have Q:=by simpa using Lib.mapM_length r
       have N:l.length=m:=by grind[Lib.mapM_length]
       refine T2 (P.cellsOf e) l cs az8 (λx o=>aCG (aCQ.1 p x o)) (λi x H=> ?_);have M:i<m:=az9;obtain⟨b,J,F⟩:=Lib.mapM_at r i i az8;have s:pl[i]?=some b.1:=az9;obtain⟨y,C,B⟩:=Lib.mapM_at g i b.1 s;grind
      simp_all
   .rename_i ms nm y hu;simp at a;subst a;unfold DataW.trod at h1;split at h1<;>simp_all;exact⟨.cons _ _ _ _ (.ix _ _) .nil,aAs⟩
   .rename_i k e es hu;split at a
    .rename_i hk c;simp[aCL]at a;obtain⟨l,g,a⟩:=a;cases aq:yj (l.map (·.1))with
     |false=>simp_all
     |true=>
      rw[aq]at a;simp at a;subst a;unfold DataW.trod at h1;rw[hu]at h1;split at h1;all_goals first
       |(rename_i hh;simp at hh;done)
       |(rename_i hh _;done)
       |(simp at h1)
       |skip
      rename_i A;obtain⟨rfl,rfl⟩:=A;split at h1
      .rename_i E clock au;split at h1
       .exact⟨.cons _ _ _ _ (amw hk c au h1 g aq) .nil,aAs⟩
       simp_all
      simp_all
    simp_all
   simp_all
theorem T3{W:World}:∀{l:List (String×DataW Unit)} {ps:List MemPlace},DataW.LaidVars P W l ps->∀{a:String} {d:DataW Unit},(a,d)∈l->
  ∃g t cs c p,P.globalNamed a=some g/\(P.globals[g]?).map (·.type)=some t/\W.var? P a=some cs/\DataW.trod (λ_=>()) P W 0 (λ_=>true) false c t cs.toList=some (d,p)
 |[],_,_,_,_,h=>az9
 |(n,d0)::r,ps,aE,a,d,h=>by
  obtain⟨g,t,cs,c,p,q,m,j,k,o,f,_⟩:=aE;rcases aCJ.1 h with h|h
  .grind
  .exact T3 f h
theorem wu{W:World}{l:List (String×DataW Unit)}{ps:List MemPlace}(h:DataW.LaidVars P W l ps){s:String}{d:DataW Unit}(C:(s,d)∈l){g t n:Nat}{f:List D}(k:P.globalNamed s=some g)(z:(P.globals[g]?).map (·.type)=some t)(w:C' P n t d=some f):
  ∃vs,jc W G0 g 0 vs/\cw W G0 vs f/\(f.length=0\/∃c E fz,zC W G0 g (.cells c E fz)/\c.size=f.length):=by
 obtain⟨M,K,m,G,p,A,u,o,B⟩:=T3 h C;obtain rfl:=aDM (k.symm.trans A);obtain rfl:=aDM (z.symm.trans u);obtain⟨r,F⟩:=amy n G t m.toList d p f B w;refine⟨m.toList,λj v H=> ?_,r,.inr ?_⟩;rotate_left
 .have a:=o;unfold World.var? at a;rw[k]at a;simp at a;split at a
  .rename_i c E fz au;refine⟨c,E,fz,⟨rfl,rfl,au⟩,?_⟩;have:=aDM a;subst this;have:=r.length;omega
  simp_all
 have J:j<m.size:=az9;refine⟨?_,λL n h=>by grind[G0],F v (List.mem_of_getElem? H)⟩;have:=World.var?_cell k o j;simp_all
end
mutual
def ql:DataW Unit->List Value
 |.lit (.int k n)=>[.int k n]
 |.lit (.string b)=>[.string ⟨b.toArray⟩]
 |.agg ps=>T4 ps
 |_=>[]
def T4:List (DataW Unit)->List Value
 |[]=>[]
 |d::l=>ql d++T4 l
end
def amA:DataW Unit->Array MapEntry
 |.map es=>(es.zipIdx.map λx=>⟨(ql (.lit x.1.1)).headD .nilIface,(ql x.1.2).headD .nilIface,x.2⟩).toArray
 |_=> #[]
def qm(h:Array Obj)(g:Nat)(vs:List Value):Array Obj:=h.modify g λ
 |.cells _ t f=>.cells vs.toArray t f
 |o=>o
theorem amB(P:Program)(c:OpenClaim)(a:c.start=.entering)(h:∀f,P.goes f=false):false=c.goesBy P:=by
 unfold OpenClaim.goesBy Program.goesAt Program.goesFrom;rw[a];cases P.funcNamed c.func with
 |none=>rfl
 |some f=>grind
theorem amC(P:Program)(T5:(P.funcs.any Func.goes)=false)(f:FuncId):P.goes f=false:=by
 unfold Program.goes;grind
def lt:List (Nat×ah)->Nat->ah
 |[]=>λ_=>.undef
 |(k,v)::l=>cK (lt l) k v
def fV:List (Nat×List ah)->Nat->Option (List ah)
 |[]=>λ_=>none
 |(k,v)::l=>cK (fV l) k (some v)
def cA(l:List (Nat×ah))(s:aY):ag:=⟨lt l,λ_=>none,s⟩
def lZ(l:List (Nat×ah))(b:List (Nat×List ah))(s:aY):ag:=⟨lt l,fV b,s⟩
theorem ax5{P:Program}{gl:Nat->List D}{g:Type}{f:Nat}{c:aW}{a:List ah}(d:g->ah)(p:g->Prop)(h:a6 P f c)(j:mf (fR P gl) gl c a [] λr s'=>(∃x,p x/\r=d x)/\s'=[]):∃x,p x/\bD P gl f a [] (d x) []:=by
 grind[a6.ext]
theorem ax6{b:Bool}{A B:Prop}(h:b=true)(a:A):cond b A B:=az8
theorem ax7{b:Bool}{A B:Prop}(h:b=false)(au:B):cond b A B:=az8
theorem ax8{b:Bool}{A B:Prop}(h:b=false)(a:A):cond (!b) A B:=az8
theorem ax9{b:Bool}{A B:Prop}(h:b=true)(au:B):cond (!b) A B:=az8
theorem uU{b:Bool}{A B:Prop}(h1:b=true->B)(a:b=false->A):cond (cond false b (!b)) A B:=az8
theorem ax'{b:Bool}{A B:Prop}(h1:b=true->A)(a:b=false->B):cond (cond true b (!b)) A B:=az8
theorem aya{b:Bool}{q:Prop}(h:b=true)(aS:q):b=true/\q:=⟨h,aS⟩
theorem ta{b:Bool}{A B:Prop}(h1:b=true->A)(a:b=false->B):cond b A B:=az8
theorem ayb{b:Bool}{A B:Prop}(h1:b=false->A)(a:b=true->B):cond (!b) A B:=az8
theorem T6{b c:Bool}(h:b=c):(!b)=!c:=h▸rfl
theorem qn{b c:Bool}{A B:Prop}(k:cond c A B)(h:b=c:=by first|assumption|exact T6 aAk):cond b A B:=az8
theorem ayc{b:Bool}{q:Prop}(aS:q)(h:b=true:=by kernel_rfl):b=true/\q:=⟨h,aS⟩
theorem qo{b:Bool}{q:Prop}(aS:q)(h:b=true:=by rfl):b=true/\q:=⟨h,aS⟩
theorem LA{P:Program}{gl:Nat->List D}{f:Nat}{c a:List ah}{s s':aY}{r:ah}{t:aY}{K:ah->aY->Prop}(h:bD P gl f c s r t)(h1:a=c)(d:s'=s)(g:K r t):∃r s2,bD P gl f a s' r s2/\K r s2:=az9
theorem GI{P:Program}{gl:Nat->List D}{d:Nat->List ah->aY->Out}{f:Nat}{g:UInt8->Bool}(j:hP P gl d)
  (h:((List.range 256).all λn=>match d f [.d (.int .u8 n)] []with|some (.d (.bool b),[])=>b==g (UInt8.ofNat n)|_=>false)=true) (c:UInt8):bD P gl f [.d (fO c)] [] (.d (.bool (g c))) []:=by
 have:=aCQ.1 h c.toNat (aDw.2 c.toNat_lt);split at this
 .rename_i b au;have a:b=g (UInt8.ofNat c.toNat):=az8;rw[UInt8.ofNat_toNat]at a;subst a;exact j _ _ _ _ _ au
 simp_all
def aCO:=@Eq.trans
def aFy:=@Nat.zero_lt_succ
def aFz:=@Nat.succ_lt_succ
def aCy:=@Int.ofNat_eq_natCast
theorem aBK(h:p:=by refine oD _ ?_;rfl):p:=h
structure bd where
 io:BinOp->IntKind->Int->Int->Int
 aB:BinOp->Int->Int->Bool
 wr:IntKind->Int->Int
 len:List D->Nat
 get:List D->Int->D
 app:List D->List D->List D
 sub:List D->Int->Int->List D
 gap:Nat->Nat->Nat->Nat->Nat->Nat->Bool
 GJ:Nat->Nat->Nat->Int->Nat->Nat->Bool->Bool
 dS:Nat->Nat->Int->Nat->Bool
 yl:Int->Nat->Bool
 nn:Int->Int->Nat->Bool
 dK:List UInt8->Nat
 wx:List UInt8->Int->UInt8
 cV:List UInt8->List UInt8->List UInt8
 gN:List UInt8->Int->Int->List UInt8
 bm:BinOp->List UInt8->List UInt8->Bool
 fL:List UInt8->List UInt8->Bool
 gI:List UInt8->List D
 lD:List Nat->List D->List D->Option Bool
 look:Bool->List Nat->D->List D->List D->Option (Option D)
 la:Nat->Int->Nat->Nat
 ha:Nat->Nat->List ah->Bool->Bool
 lE:Bool->Nat->Nat->List ah->Bool->Bool
 AL:Nat->List ah->Bool
 wy:Bool->Nat->Nat->Nat->List ah->Bool
 wz:Int->Int->Bool
 mC:Bool->Int->Int->Int->Nat->Bool
 kM:List ah->Nat->ah
 Df:List ah->Nat->ah
 l0:List ah->Nat->Nat->ah
 kN:List ah->Nat->List ah->Option (List ah)
 Dg:List ah->Nat->Option (List ah)
 qp:List ah->Nat->Nat->List ah->Option (List ah)
 ym:Nat->List ah->Option (List ah)
 ns:Int->Int->Nat
 AN:List fb->List fb->Option (List fb)
 l3:Nat->Nat->Nat
 AO:Nat->Nat->Nat->Nat->Nat->Bool
 yn:List fb->Option (List ah)
 AP:Nat->Nat->Nat->Nat->List ah->Option D
 LB:Bool->Int->List D->Bool
 Dh:Nat->List D->Int->ah
 yo:cc->List Nat
 yp:(Nat->Nat)->cc->cc
 yq:Nat->cc->Bool
 yr:Bool->List Nat->D->List (D×ah)->Option (Option ah)
 yt:Bool->List Nat->D->ah->List (D×ah)->Option (List (D×ah))
def LD{R:Type}(v:ah)(K:ah->R):R:=match v with
 |.d x=>K (.d x)
 |v=>K v
theorem T7{R:Type}(v:ah)(K:ah->R):LD v K=K v:=by cases v<;>rfl
def wA{a R:Type}(A:mT R)(o:Option a)(K:a->R):R:=match o with
 |some x=>K x
 |none=>A.fail
def amD{R:Type}(A:mT R)(b:Bool)(x:Unit->R):R:=match b with
 |true=>x ()
 |false=>A.fail
def T8{R:Type}(l:List Nat)(K:List Nat->R):R:=match l with
 |[]=>K []
 |i::t=>K (i::t)
theorem amE{R:Type}(l:List Nat)(K:List Nat->R):T8 l K=K l:=by cases l<;>rfl
def kO{R:Type}(b:Bool)(x y:Unit->R):R:=match b with
 |true=>x ()
 |false=>y ()
theorem T9{R:Type}(b:Bool)(x y:Unit->R):kO b x y=cond b (x ()) (y ()):=by cases b<;>rfl
theorem oD{a:Type}(b:Bool){x y:Unit->a}(h:x ()=y ()):kO b x y=y ():=by
 cases b
 .rfl
 .exact h
def tc(aw:Bool)(ks:List Nat)(k:D)(es:List (D×ah)):Option (Option ah):=
 match e4 aw ks k es 0 with
 |some none=>some none
 |some (some j)=>match es[j]? with
  |some e=>some (some e.2)
  |none=>none
 |none=>none
def rL(aw:Bool)(ks:List Nat)(k:D)(x:ah)(es:List (D×ah)):Option (List (D×ah)):=
 match e4 aw ks k es 0 with
 |some j=>some (nI es k x j)
 |none=>none
def Di(aw:Bool)(ks:List Nat)(k:D)(kl vl:List D):Option (Option D):=
 match e4 aw ks k ((kl.zip vl).map λe=>(e.1,.d e.2)) 0 with
 |some none=>some none
 |some (some j)=>match vl[j]? with
  |some v=>some (some v)
  |none=>none
 |none=>none
def bd.bU:bd where
 io op k a b:=match op with
  |.add=>k.wrap (a+b)
  |.sub=>k.wrap (a-b)
  |.mul=>k.wrap (a*b)
  |.quo=>k.wrap (a.tdiv b)
  |.rem=>a.tmod b
  |.and=>k.wrap (BitVec.ofInt k.bits a&&& BitVec.ofInt k.bits b).toNat
  |.or=>k.wrap (BitVec.ofInt k.bits a|||BitVec.ofInt k.bits b).toNat
  |.xor=>k.wrap (BitVec.ofInt k.bits a^^^BitVec.ofInt k.bits b).toNat
  |.andNot=>k.wrap (BitVec.ofInt k.bits a&&& ~~~ BitVec.ofInt k.bits b).toNat
  |.shl=>k.wrap (a*2^(min b.toNat k.bits))
  |.shr=>a.fdiv (2^(min b.toNat k.bits))
  |_=>0
 aB op a b:=match op with
  |.eql=>decide (a=b)
  |.neq=>!decide (a=b)
  |.lss=>decide (a<b)
  |.leq=>decide (a<=b)
  |.gtr=>decide (b<a)
  |_=>decide (b<=a)
 wr:=IntKind.wrap
 len:=List.length
 get l n:=l.getD n.toNat .dJ
 app l m:=l++m
 sub l a b:=(l.drop a.toNat).take (b.toNat-a.toNat)
 gap a b c n m k:=Nat.beq a b&&Nat.beq c b&&Nat.ble (n+m) k
 GJ a b c i n k t:=Nat.beq a b&&Nat.beq c b&&decide (i=n)&&Nat.ble (n+1) k&&t
 dS a b n k:=Nat.beq a b&&decide (0<=n)&&decide (n<k)
 yl n k:=decide (0<=n)&&decide (n<k)
 nn l h n:=decide (0<=l)&&decide (l<=h)&&decide (h<=n)
 dK:=List.length
 wx s n:=s.getD n.toNat 0
 cV a b:=a++b
 gN s a b:=(s.drop a.toNat).take (b.toNat-a.toNat)
 bm op a b:=match op with
  |.eql=>decide (a=b)
  |.neq=>!decide (a=b)
  |.lss=>bytesLess a b
  |.leq=>bytesLess a b||decide (a=b)
  |.gtr=>!(bytesLess a b||decide (a=b))
  |_=>!bytesLess a b
 fL a b:=decide (a.length+b.length<=IJ)
 gI s:=s.map fO
 lD:=cG
 look:=Di
 la o n z:=o+n.toNat*z
 ha o n cs t:=Nat.ble (o+n) cs.length&&t
 lE t o n cs u:=t&&Nat.ble (o+n) cs.length&&u
 AL o cs:=Nat.blt o cs.length
 wy t o n z cs:=t&&Nat.ble (o+n*z) cs.length
 wz n b:=decide (0<=n)&&decide (n<=b)
 mC t l h m c:=t&&decide (0<=l)&&decide (l<=h)&&decide (h<=m)&&decide (m<=c)
 kM cs o:=snap (cs.getD o .undef)
 Df cs o:=cs.getD o .undef
 l0 cs o n:=cX (.agg ((cs.drop o).take n))
 kN cs o l:=some (putCells cs o l)
 Dg cs o:=some (cs.set o .undef)
 qp cs o n z:=some (putCells cs o (List.replicate n z).flatten)
 ym n z:=some (List.replicate n z).flatten
 ns a b:=a.toNat-b.toNat
 AN a b:=some (a++b)
 l3 a b:=a+b
 AO a b n m k:=Nat.beq a b&&Nat.ble (n+m) k
 yn cs:=some (jS cs)
 AP off len cap sz bs:=cond (Nat.ble len cap&&Nat.blt 0 sz&&Nat.ble (off+len*sz) bs.length) (match ja ((bs.drop off).take (len*sz))with
  |some l=>cond (l.all jt) (some (.list sz (chunks sz len l))) none
  |none=>none) none
 LB t n l:=t&&decide (0<=n)&&decide (n<=l.length)&&!l.isEmpty
 Dh sz l n:=iL sz (l.drop n.toNat)
 yo:=cc.refs
 yp:=cc.ren
 yq:=cc.fB
 yr:=tc
 yt:=rL
theorem Dj(a b:Nat):Nat.beq a b=decide (a=b):=by
 grind[Nat.eq_of_beq_eq_true,Nat.ne_of_beq_eq_false]
theorem AQ(n m:Nat):Nat.ble n m=decide (n<=m):=by
 grind[Nat.le_of_ble_eq_true,Nat.ble_eq_true_of_le]
theorem aH{d:bd}(h:d=bd.bU):
  (∀k a b,d.io .add k a b=k.wrap (a+b))/\(∀k a b,d.io .sub k a b=k.wrap (a-b))/\(∀k a b,d.io .mul k a b=k.wrap (a*b))/\(∀k a b,d.io .quo k a b=k.wrap (a.tdiv b))/\(∀k a b,d.io .rem k a b=a.tmod b)/\
  (∀a b,d.aB .eql a b=decide (a=b))/\(∀a b,d.aB .neq a b=!decide (a=b))/\(∀a b,d.aB .lss a b=decide (a<b))/\(∀a b,d.aB .leq a b=decide (a<=b))/\(∀a b,d.aB .gtr a b=decide (b<a))/\(∀a b,d.aB .geq a b=decide (b<=a))/\
  (∀k n,d.wr k n=k.wrap n)/\(∀l,d.len l=l.length)/\(∀l n,d.get l n=l.getD n.toNat .dJ)/\(∀l m,d.app l m=l++m)/\(∀l a b,d.sub l a b=(l.drop a.toNat).take (b.toNat-a.toNat))/\
  (∀a b c n m k,d.gap a b c n m k=(decide (a=b)&&decide (c=b)&&decide (n+m<=k)))/\(∀a b c i n k t,d.GJ a b c i n k t=(decide (a=b)&&decide (c=b)&&decide (i=n)&&decide (n+1<=k)&&t))/\(∀a b n k,d.dS a b n k=(decide (a=b)&&decide (0<=n)&&decide (n<k)))/\(∀n k,d.yl n k=(decide (0<=n)&&decide (n<k)))/\(∀a b n,d.nn a b n=(decide (0<=a)&&decide (a<=b)&&decide (b<=n)))/\
  (∀s,d.dK s=s.length)/\(∀s n,d.wx s n=s.getD n.toNat 0)/\(∀a b,d.cV a b=a++b)/\(∀s a b,d.gN s a b=(s.drop a.toNat).take (b.toNat-a.toNat))/\
  (∀a b,d.bm .eql a b=decide (a=b))/\(∀a b,d.bm .neq a b=!decide (a=b))/\(∀a b,d.fL a b=decide (a.length+b.length<=4611686018427387904))/\(∀s,d.gI s=s.map fO):=by
 subst h;refine⟨λ_ _ _=>rfl,λ_ _ _=>rfl,λ_ _ _=>rfl,λ_ _ _=>rfl,λ_ _ _=>rfl,λ_ _=>rfl,λ_ _=>rfl,λ_ _=>rfl,λ_ _=>rfl,λ_ _=>rfl,λ_ _=>rfl,λ_ _=>rfl,λ_=>rfl,λ_ _=>rfl,λ_ _=>rfl,λ_ _ _=>rfl,λa b c n m k=> ?_,λa b c i n k t=> ?_,λa b n k=> ?_,λ_ _=>rfl,λ_ _ _=>rfl,λ_=>rfl,λ_ _=>rfl,λ_ _=>rfl,λ_ _ _=>rfl,λ_ _=>rfl,λ_ _=>rfl,λ_ _=>rfl,λ_=>rfl⟩
 .rw[<-Dj,<-Dj,<-AQ];rfl
 .rw[<-Dj,<-Dj,<-AQ];rfl
 .rw[<-Dj];rfl
theorem amF(n m:Nat):Nat.blt n m=decide (n<m):=AQ _ _
theorem uV{a:bd}(h:a=bd.bU):
  (∀o n z,a.la o n z=o+n.toNat*z)/\(∀o n cs t,a.ha o n cs t=(decide (o+n<=cs.length)&&t))/\(∀t o n cs u,a.lE t o n cs u=(t&&decide (o+n<=cs.length)&&u))/\(∀o cs,a.AL o cs=decide (o<cs.length))/\
  (∀t o n z cs,a.wy t o n z cs=(t&&decide (o+n*z<=cs.length)))/\(∀n b,a.wz n b=(decide (0<=n)&&decide (n<=b)))/\(∀t l h m c,a.mC t l h m c=(t&&decide (0<=l)&&decide (l<=h)&&decide (h<=m)&&decide (m<=(c:Int)))):=by
 subst h;refine⟨λ_ _ _=>rfl,λo n cs t=> ?_,λt o n cs u=> ?_,λo cs=> ?_,λt o n z cs=> ?_,λ_ _=>rfl,λ_ _ _ _ _=>rfl⟩
 .rw[<-AQ];rfl
 .rw[<-AQ];rfl
 .rw[<-amF];rfl
 .rw[<-AQ];rfl
def Flat(cs:List ah):Prop:=∀v∈cs,(∃x,v=.d x)\/∃z l,v=.own z l
def po(es:List (D×ah)):Prop:=∀e∈es,∃x,e.2=.d x
theorem Flat.refs{a:bd}(h:a=bd.bU){cs:List ah}(c:Flat cs):a.yo (.box cs)=[]:=by
 subst h;show cs.flatMap (aG.refs depth)=[];rw[aF5];intro v d;rcases c v d with⟨x,rfl⟩|⟨z,l,rfl⟩<;>rfl
theorem Flat.ren{a:bd}(h:a=bd.bU){cs:List ah}(c:Flat cs)(f:Nat->Nat):a.yp f (.box cs)=.box cs:=by
 subst h;show cc.box (cs.map (aG.ren f depth))=_;congr 1;refine(aER λv d=> ?_).trans (List.map_id cs);rcases c v d with⟨x,rfl⟩|⟨z,l,rfl⟩<;>rfl
theorem Flat.ok{a:bd}(h:a=bd.bU){cs:List ah}(c:Flat cs)(n:Nat):a.yq n (.box cs)=true:=by
 subst h;refine aCQ.2 λv d=> ?_;rcases c v d with⟨x,rfl⟩|⟨z,l,rfl⟩<;>rfl
theorem po.refs{a:bd}(h:a=bd.bU){es:List (D×ah)}(d:po es):a.yo (.map es)=[]:=by
 subst h;show es.flatMap (λe=>aG.refs depth e.2)=[];rw[aF5];intro v f;obtain⟨x,c⟩:=d v f;rw[c];rfl
theorem po.ren{a:bd}(h:a=bd.bU){es:List (D×ah)}(d:po es)(f:Nat->Nat):a.yp f (.map es)=.map es:=by
 subst h;show cc.map (es.map λe=>(e.1,aG.ren f depth e.2))=_;congr 1;refine(aER λv g=> ?_).trans (List.map_id es);obtain⟨x,c⟩:=d v g;rw[c];show(v.1,ah.d x)=v;grind
theorem po.ok{a:bd}(h:a=bd.bU){es:List (D×ah)}(c:po es)(n:Nat):a.yq n (.map es)=true:=by
 subst h;refine aCQ.2 λv d=> ?_;obtain⟨x,f⟩:=c v d;grind[aG.fB]
section
variable (ad:bd)(ar:List Nat){R:Type}(A:mT R)(gl:Nat->List D)
def T'(op:BinOp)(k:IntKind)(a b:Int):Option (Bool×D):=
 match op with
 |.add=>some (true,.int k (ad.io .add k a b))
 |.sub=>some (true,.int k (ad.io .sub k a b))
 |.mul=>some (true,.int k (ad.io .mul k a b))
 |.quo=>some (decide (b≠0),.int k (ad.io .quo k a b))
 |.rem=>some (decide (b≠0),.int k (ad.io .rem k a b))
 |.and=>some (true,.int k (ad.io .and k a b))
 |.or=>some (true,.int k (ad.io .or k a b))
 |.xor=>some (true,.int k (ad.io .xor k a b))
 |.andNot=>some (true,.int k (ad.io .andNot k a b))
 |.eql=>some (true,.bool (ad.aB .eql a b))
 |.neq=>some (true,.bool (ad.aB .neq a b))
 |.lss=>some (true,.bool (ad.aB .lss a b))
 |.leq=>some (true,.bool (ad.aB .leq a b))
 |.gtr=>some (true,.bool (ad.aB .gtr a b))
 |.geq=>some (true,.bool (ad.aB .geq a b))
 |_=>none
def Ua(op:BinOp)(k:IntKind)(a b:Int):Option D:=
 match op with
 |.shl=>some (.int k (ad.io .shl k a b))
 |.shr=>some (.int k (ad.io .shr k a b))
 |_=>none
def Ub(op:BinOp)(a b:List UInt8):Option (Bool×D):=
 match op with
 |.add=>some (ad.fL a b,.str (ad.cV a b))
 |.eql=>some (true,.bool (ad.bm .eql a b))
 |.neq=>some (true,.bool (ad.bm .neq a b))
 |.lss=>some (true,.bool (ad.bm .lss a b))
 |.leq=>some (true,.bool (ad.bm .leq a b))
 |.gtr=>some (true,.bool (ad.bm .gtr a b))
 |.geq=>some (true,.bool (ad.bm .geq a b))
 |_=>none
def amG(o:Option Bool)(K:Bool->R):R:=match o with
 |some r=>K r
 |none=>A.fail
def LF(i:Nat)(o:cc):List Nat:=kO (du i ar) (λ_=>ad.yo o) (λ_=>o.refs)
def LG(f:Nat->Nat)(i:Nat)(o:cc):cc:=kO (du i ar) (λ_=>ad.yp f o) (λ_=>o.ren f)
def Uc(n i:Nat)(o:cc):Bool:=kO (du i ar) (λ_=>ad.yq n o) (λ_=>o.fB n)
def AR(s:aY):Nat->List Nat->List Nat->List Nat
 |0,_,acc=>acc
 |_+1,[],acc=>acc
 |n+1,i::todo,acc=>kO (du i acc) (λ_=>AR s n todo acc) (λ_=>AR s n (todo++LF ad ar i (s.getD i .dead)) (acc++[i]))
def LH(s:aY)(a:List Nat)(args:List ah):Bool:=
 (args.flatMap (refs depth)).all (λi=>du i a)&&a.all λi=>(LF ad ar i (s.getD i .dead)).all λj=>du j a
def GK(f:Nat->Nat):Nat->List cc->List cc
 |_,[]=>[]
 |p,o::l=>LG ad ar f (f p) o::GK f (p+1) l
def Dk(n:Nat):Nat->List cc->Bool
 |_,[]=>true
 |p,o::l=>Uc ad ar n p o&&Dk n (p+1) l
def GL(f:Nat)(args:List ah)(s:aY)(K:ah->aY->R):R:=match ar with
 |[]=>lp A f args s K
 |_::_=>
  T8 (AR ad ar s (s.length+s.length+8) (args.flatMap (refs depth)) []) λa=>
  let d:=λi=>lN i a;let c:=back a s.length;A.guard (II s.length a&&nodupB a&&LH ad ar s a args&&args.all (eo depth)) <|
  A.call f (args.map (ren d depth)) (a.map λi=>LG ad ar d i (s.getD i .dead)) λr g=>
   A.guard (Nat.ble a.length g.length) <|
   K (ren c depth r) (merge s a (GK ad ar c 0 g))
def AS(n:Nat)(ts a:List Nat)(st:ag)(K:ag->R):R:=match ar with
 |[]=>forget A n ts a st K
 |_::_=>A.guard (keeps st.aR a ts) (match ts.all (λt=>fB n depth (st.aR t))&&a.all (okB n st.bM)with
  |true=>match Dk ad ar n 0 (st.s.take n)with
   |true=>K ⟨tN st.aR ts,tO st.bM a,st.s.take n⟩
   |false=>K ⟨tN st.aR ts,tO st.bM a,st.s⟩
  |false=>K ⟨tN st.aR ts,tO st.bM a,st.s⟩)
def LI(n:Nat)(r:ah)(s:aY)(K:ah->aY->R):R:=match ar with
 |[]=>K r (gc n r s)
 |_::_=>match fB n depth r with
  |true=>match Dk ad ar n 0 (s.take n)with
   |true=>K r (s.take n)
   |false=>K r s
  |false=>K r s
def Ud(s:aY)(i j:Nat):Option aY:=match s.getD i .dead with
 |.box cs=>match cs.getD j .undef with
  |.raw sz n us=>match ad.yn us with
   |some vs=>some (s.set i (.box (cs.set j (.aP s.length 0 n n sz)))++[.box vs])
   |none=>none
  |_=>some s
 |_=>none
def GM(i:Nat):aY->Nat->Nat->Option aY
 |s,_,0=>some s
 |s,j,n+1=>match Ud ad s i j with
  |some a=>GM i a (j+1) n
  |none=>none
def LJ(d s:Nat)(x:O)(sz a f n:Nat)(cs:List fb)(st:ag)(K:ag->R):R:=match qX st (aO gl st x) sz with
 |some (us,k)=>match vz us with
  |some g=>A.guard (ad.AO f sz n k a) (wA A (ad.AN cs g) λc=>K ((st.set s .undef).set d (.raw sz (ad.l3 n k) c)))
  |none=>A.fail
 |none=>A.fail
def pq(i:I)(st:ag)(K:ag->R):R:=
 match i with
 |.oU aw ks m B x=>match aO gl st m,hI (aO gl st B)with
  |.map i,some k=>kO (du i ar) (λ_=>match st.s.getD i .dead with
   |.map es=>match ad.yt aw ks k (cX (aO gl st x)) es with
    |some C=>A.guard (eo depth (cX (aO gl st x))&&fc aw k&&(cG ks k.cells k.cells).isSome) (K {st with s:=st.s.set i (.map C)})
    |none=>A.fail
   |_=>A.fail) (λ_=>step A gl (.oU aw ks m B x) st K)
  |_,_=>A.fail
 |.aE d a n aw=>match aO gl st a with
  |.ptr i off=>kO (du i ar) (λ_=>match st.s.getD i .dead with
   |.box cs=>A.guard (ad.ha off n cs (aw||Nat.beq n 1)) (LD (cond aw (ad.l0 cs off n) (ad.kM cs off)) λv=>K (st.set d v))
   |_=>A.fail) (λ_=>match st.s.getD i .dead with
   |.box cs=>A.guard (Nat.ble (off+n) cs.length&&(aw||Nat.beq n 1)) (K (st.set d (valOf cs off n aw)))
   |_=>A.fail)
  |.d (.e2 cs off)=>A.guard (Nat.ble (off+n) cs.length) (K (st.set d (.d (cond aw (.agg ((cs.drop off).take n)) (cs.getD off .dJ)))))
  |_=>A.fail
 |.hs a x n=>match aO gl st a with
  |.ptr i off=>kO (du i ar) (λ_=>match st.s.getD i .dead with
   |.box cs=>
    let vs:=cellsOf (aO gl st x);A.guard (ad.lE (Nat.beq vs.length n) off n cs (vs.all kT)) (wA A (ad.kN cs off vs) λg=>K {kill st x with s:=st.s.set i (.box g)})
   |_=>A.fail) (λ_=>match st.s.getD i .dead with
   |.box cs=>
    let vs:=cellsOf (aO gl st x);A.guard (Nat.beq vs.length n&&Nat.ble (off+n) cs.length&&vs.all kT) (K {kill st x with s:=st.s.set i (.box (putCells cs off vs))})
   |_=>A.fail)
  |_=>A.fail
 |.aK d a=>match aO gl st a with
  |.ptr i off=>kO (du i ar) (λ_=>match st.s.getD i .dead with
   |.box cs=>A.guard (ad.AL off cs) (wA A (ad.Dg cs off) λg=>LD (ad.Df cs off) λv=>K ({st with s:=st.s.set i (.box g)}.set d v))
   |_=>A.fail) (λ_=>match st.s.getD i .dead with
   |.box cs=>A.guard (Nat.blt off cs.length) (K ({st with s:=st.s.set i (.box (cs.set off .undef))}.set d (cs.getD off .undef)))
   |_=>A.fail)
  |_=>A.fail
 |.oV d x z=>match aO gl st x with
  |.aP i off len _ sz=>kO (du i ar) (λ_=>match st.s.getD i .dead with
   |.box cs=>A.guard (ad.wy (Nat.beq z.length sz) off len sz cs) (wA A (ad.qp cs off len z) λg=>K ({st with s:=st.s.set i (.box g)}.dQ d (.tuple [])))
   |_=>A.fail) (λ_=>match st.s.getD i .dead with
   |.box cs=>A.guard (Nat.beq z.length sz&&Nat.ble (off+len*sz) cs.length) (K ({st with s:=st.s.set i (.box (putCells cs off (List.replicate len z).flatten))}.dQ d (.tuple [])))
   |_=>A.fail)
  |v=>match hJ v with
   |some (_,[])=>K (st.dQ d (.tuple []))
   |_=>A.fail
 |.mk d sz z n w=>match aO gl st n with
  |.d (.int _ n)=>kO (du st.s.length ar) (λ_=>A.guard (ad.wz n w) (wA A (ad.ym n.toNat z) λg=>K ({st with s:=st.s++[cc.box g]}.set d (.aP st.s.length 0 n.toNat n.toNat sz)))) (λ_=>A.guard (decide (0<=n)&&decide (n<=w)) (K ({st with s:=st.s++[cc.box (List.replicate n.toNat z).flatten]}.set d (.aP st.s.length 0 n.toNat n.toNat sz))))
  |_=>A.fail
 |.aP d p x lo hi u=>match aO gl st x with
  |.aP j off len cap sz=>kO (du j ar) (λ_=>match bound gl st 0 lo,bound gl st len hi,bound gl st cap u with
   |some l,some h,some m=>A.guard (ad.mC (Nat.beq sz p) l h m cap) (match ad.aB .eql l m with
    |true=>K (st.set d (.d (.list sz [])))
    |false=>K (st.set d (.aP j (ad.la off l sz) (ad.ns h l) (ad.ns m l) sz)))
   |_,_,_=>A.fail) (λ_=>step A gl (.aP d p x lo hi u) st K)
  |v=>match hJ v with
   |some (sz,s)=>match bound gl st 0 lo,bound gl st (ad.len s) hi,bound gl st (ad.len s) u with
    |some l,some h,some m=>A.guard (ad.mC (Nat.beq sz p) l h m (ad.len s)) (K (st.set d (.d (.list sz (ad.sub s l h)))))
    |_,_,_=>A.fail
   |none=>A.fail
 |.gJ d x off=>match aO gl st x with
  |.ptr i o=>kO (du i ar) (λ_=>K (st.set d (.ptr i (ad.l3 o off)))) (λ_=>K (st.set d (.ptr i (o+off))))
  |_=>step A gl (.gJ d x off) st K
 |.pL d x=>match x with
  |.t s=>match st.aR s with
   |.raw sz n cs=>wA A (ad.yn cs) λE=>K (({st with s:=st.s++[cc.box E]}.set s (.aP st.s.length 0 n n sz)).set d (.aP st.s.length 0 n n sz))
   |.ptr i off=>match st.s.getD i .dead with
    |.box cs=>match GM ad i st.s 0 cs.length with
     |some t=>K ({st with s:=t}.set d (.ptr i off))
     |none=>A.fail
    |_=>A.fail
   |v=>K (st.set d (snap v))
  |_=>A.fail
 |.cl d f args=>match aO gl st f with
  |.d (.fn f)=>GL ad ar A f (args.map (j' gl st)) st.s λr t=>K ({st with s:=t}.dQ d r)
  |.func f a c=>GL ad ar A f (a++args.map (j' gl st)++c) st.s λr t=>K ({st with s:=t}.dQ d r)
  |_=>A.fail
 |.nH d own x=>match aO gl st x with
  |.aP k off len cap sz=>kO (du k ar) (λ_=>match st.s.getD k .dead with
   |.box bs=>match ad.AP off len cap sz bs with
    |some y=>K ({st with s:=st.s.set k .dead}.set d (match own with
     |true=>(match y with|.list sz l=>iL sz l|y=>.d y)
     |false=>.d y))
    |none=>A.fail
   |_=>A.fail) (λ_=>step A gl (.nH d own x) st K)
  |_=>step A gl (.nH d own x) st K
 |.so d s p x=>match st.aR s,aO gl st x with
  |.own sz l,.d (.int _ n)=>A.guard (ad.LB (Nat.beq sz p) n l) (K ((st.set s .undef).set d (ad.Dh sz l n)))
  |_,_=>A.fail
 |i=>step A gl i st K
def jm(i:I)(st:ag)(K:ag->R):R:=
 match i with
 |.dU d c a b=>match aO gl st c with
  |.d (.bool t)=>match t with
   |true=>K (st.set d (snap (aO gl st a)))
   |false=>K (st.set d (snap (aO gl st b)))
  |_=>A.fail
 |.bi d op x y=>match aO gl st x,aO gl st y with
  |.d (.int k a),.d (.int k' b)=>match Ua ad op k a b with
   |some r=>A.guard (ad.aB .geq b 0) (K (st.set d (.d r)))
   |none=>match T' ad op k a b with
    |some (ok,r)=>A.guard (decide (k=k')) (A.guard ok (K (st.set d (.d r))))
    |none=>A.fail
  |.d (.str a),.d (.str b)=>match Ub ad op a b with
   |some (ok,r)=>A.guard ok (K (st.set d (.d r)))
   |none=>A.fail
  |_,_=>A.fail
 |.un d op x=>match op,aO gl st x with
  |.not,.d (.bool b)=>(match b with
   |true=>K (st.set d (.d (.bool false)))
   |false=>K (st.set d (.d (.bool true))))
  |.neg,.d (.int k n)=>K (st.set d (.d (.int k (ad.io .sub k 0 n))))
  |.xor,.d (.int k n)=>K (st.set d (.d (.int k (ad.io .xor k (if k.signed then -1 else k.max) n))))
  |_,_=>A.fail
 |.ci d k x=>match aO gl st x with
  |.d (.int _ n)=>K (st.set d (.d (.int k (ad.wr k n))))
  |_=>A.fail
 |.gI d x=>match aO gl st x with
  |.d (.str s)=>K (st.set d (.d (.list 1 (ad.gI s))))
  |_=>A.fail
 |.mc d x i sz=>match aO gl st i with
  |.d (.int _ n)=>match aO gl st x with
   |.aP j off len _ u=>kO (du j ar) (λ_=>A.guard (ad.dS u sz n len) (K (st.set d (.ptr j (ad.la off n sz))))) (λ_=>A.guard (Nat.beq u sz&&decide (0<=n)&&decide (n<len)) (K (st.set d (.ptr j (off+n.toNat*sz)))))
   |v=>match hJ v with
    |some (u,l)=>A.guard (ad.dS u sz n (ad.len l)) (match ad.get l n with
     |.agg cs=>K (st.set d (.d (.e2 cs 0)))
     |x=>K (st.set d (.d (.e2 [x] 0))))
    |none=>A.fail
  |_=>A.fail
 |.mR d x i=>match aO gl st x,aO gl st i with
  |.d (.str s),.d (.int _ n)=>A.guard (ad.yl n (ad.dK s)) (K (st.set d (.d (fO (ad.wx s n)))))
  |_,_=>A.fail
 |.ss d x lo hi=>match aO gl st x with
  |.d (.str s)=>match bound gl st 0 lo,bound gl st (ad.dK s) hi with
   |some l,some h=>A.guard (ad.nn l h (ad.dK s)) (K (st.set d (.d (.str (ad.gN s l h)))))
   |_,_=>A.fail
  |_=>A.fail
 |.ap d s x sz f=>match st.aR s with
  |.own g l=>match qY st (aO gl st x)with
   |some (o,p)=>A.guard (ad.gap g sz o (ad.len l) (ad.len p) f) (K ((st.set s .undef).set d (.own sz (ad.app l p))))
   |none=>A.fail
  |.gH g=>match qY st (aO gl st x)with
   |some (o,p)=>A.guard (ad.gap g sz o (ad.len p) 0 f) (K ((st.set s .undef).set d (iL sz p)))
   |none=>A.fail
  |.raw g n cs=>LJ ad A gl d s x sz f g n cs st K
  |_=>hT A gl false false d s x sz f st K
 |.nF d s x sz f=>match st.aR s with
  |.raw g n cs=>LJ ad A gl d s x sz f g n cs st K
  |_=>hT A gl true false d s x sz f st K
 |.nG d s x sz f=>match st.aR s with
  |.raw g n cs=>LJ ad A gl d s x sz f g n cs st K
  |_=>hT A gl true true d s x sz f st K
 |.ln d s z i x sz f=>match st.aR s,tJ (st.aR z),st.aR i,hI (aO gl st x)with
  |.own g l,some (o,[_]),.d (.int _ n),some w=>
   A.guard (ad.GJ g sz o n (ad.len l) f (Nat.beq w.cells.length sz&&w.cells.all jt)) (K ((st.set s .undef).set d (.own sz (ad.app l [w]))))
  |_,_,_,_=>A.fail
 |.nE d str x=>match aO gl st x with
  |.aP _ _ len _ _=>A.guard (!str) (K (st.set d (.d (.int .i64 len))))
  |.d (.str s)=>A.guard str (K (st.set d (.d (.int .i64 (ad.dK s)))))
  |v=>match hJ v with
   |some (_,l)=>A.guard (!str) (K (st.set d (.d (.int .i64 (ad.len l)))))
   |none=>A.fail
 |.qU d lt x y=>match aO gl st x,aO gl st y with
  |.d (.int k a),.d (.int k' b)=>A.guard (decide (k=k')) (K (st.set d (.d (.int k (match (match lt with|true=>ad.aB .gtr a b|false=>ad.aB .lss a b)with|true=>b|false=>a)))))
  |_,_=>A.fail
 |.eq d neg aw ks x y=>match hI (aO gl st x),hI (aO gl st y)with
  |some a,some b=>A.guard (fc aw a&&fc aw b) <| amG A (ad.lD ks a.cells b.cells) λr=>match r with
   |true=>K (st.set d (.d (.bool (!neg))))
   |false=>K (st.set d (.d (.bool neg)))
  |_,_=>A.fail
 |.aH d aw ks m k z ok=>match aO gl st m with
  |.d (.lM kl B)=>match hI (aO gl st k)with
   |none=>A.fail
   |some k=>A.guard (fc aw k&&(cG ks k.cells k.cells).isSome) <| match ad.look aw ks k kl B with
    |some none=>K (st.set d (cond ok (.tuple [cX z,.d (.bool false)]) (cX z)))
    |some (some v)=>K (st.set d (cond ok (.tuple [.d v,.d (.bool true)]) (.d v)))
    |none=>A.fail
  |.map i=>kO (du i ar) (λ_=>match hI (aO gl st k)with
   |none=>A.fail
   |some k=>A.guard (fc aw k&&(cG ks k.cells k.cells).isSome) <| match st.s.getD i .dead with
    |.map es=>match ad.yr aw ks k es with
     |some none=>K (st.set d (cond ok (.tuple [cX z,.d (.bool false)]) (cX z)))
     |some (some v)=>K (st.set d (cond ok (.tuple [v,.d (.bool true)]) v))
     |none=>A.fail
    |_=>A.fail) (λ_=>step A gl (.aH d aw ks m k z ok) st K)
  |_=>step A gl (.aH d aw ks m k z ok) st K
 |i=>pq ad ar A gl i st K
def td:List cm->ag->(ag->R)->R
 |[],a,K=>K a
 |⟨none,i⟩::l,a,K=>jm ad ar A gl i a λa=>td l a K
 |⟨some (s,want),i⟩::l,a,K=>match a.aR s with
  |.d (.bool b)=>match want with
   |true=>(match b with
    |true=>jm ad ar A gl i a λa=>td l a K
    |false=>td l (a.dQ i.dst (.tuple [])) K)
   |false=>(match b with
    |true=>td l (a.dQ i.dst (.tuple [])) K
    |false=>jm ad ar A gl i a λa=>td l a K)
  |.tuple []=>td l (a.dQ i.dst (.tuple [])) K
  |_=>A.fail
def LK(g:cm)(st:ag)(K:ag->R):R:=match g.g with
 |none=>jm ad ar A gl g.i st K
 |some (s,want)=>match st.aR s with
  |.d (.bool b)=>match want with
   |true=>(match b with
    |true=>jm ad ar A gl g.i st K
    |false=>K (st.dQ g.i.dst (.tuple [])))
   |false=>(match b with
    |true=>K (st.dQ g.i.dst (.tuple []))
    |false=>jm ad ar A gl g.i st K)
  |.tuple []=>K (st.dQ g.i.dst (.tuple []))
  |_=>A.fail
def LL(f:Nat)(i:I)(st:ag):Option (cc×Nat×(Nat->ah)):=
 match i with
 |.mk d sz z n a=>kO (du f ar) (λ_=>match aO gl st n with
  |.d (.int _ n)=>cond (ad.wz n a) (match ad.ym n.toNat z with
   |some c=>some (.box c,d,λi=>.aP i 0 n.toNat n.toNat sz)
   |none=>none) none
  |_=>none) (λ_=>ku gl (.mk d sz z n a) st)
 |i=>ku gl i st
def GN(a:Nat)(g:cm)(st:ag)(K:ag->R):R:=match g.g,LL ad ar gl a g.i st with
  |none,some (o,d,v)=>A.guard (Nat.blt a st.s.length) (K ({st with s:=st.s.set a o}.set d (v a)))
  |_,_=>A.fail
def LM(a:Nat)(g:cm)(st:ag)(K:ag->R):R:=kO (ic g.i) (λ_=>match g.g,g.i with
  |none,.mk d sz z n c=>kO (du a ar) (λ_=>match aO gl st n with
   |.d (.int _ n)=>amD A (ad.wz n c) λ_=>wA A (ad.ym n.toNat z) λf=>A.guard (Nat.blt a st.s.length) (K ({st with s:=st.s.set a (.box f)}.set d (.aP a 0 n.toNat n.toNat sz)))
   |_=>A.fail) (λ_=>GN ad ar A gl a g st K)
  |_,_=>GN ad ar A gl a g st K) (λ_=>LK ad ar A gl g st K)
def LN(st d:ag)(args:List ah):ju:=
 {a:=some st.s.length,c:=some (AR ad ar st.s (st.s.length+st.s.length+8) (args.flatMap (refs depth)) [],st.s,d.s)}
def GO(j:Nat)(g:cm)(st d:ag):ju:=match g.g,g.i with
 |none,.cl _ f args=>match aO gl st f with
  |.d (.fn _)=>LN ad ar st d (args.map (j' gl st))
  |.func _ a c=>LN ad ar st d (a++args.map (j' gl st)++c)
  |_=>{}
 |_,_=>vA gl j g st d
def GQ(a b:List (Nat×Nat×Nat)):Bool:=
 a.all λx=>b.all λy=>match Nat.beq x.1 y.1 with
  |false=>true
  |true=>!Nat.beq x.2.2 big&&!Nat.beq y.2.2 big&&(Nat.ble (x.2.1+x.2.2) y.2.1||Nat.ble (y.2.1+y.2.2) x.2.1)
def LO(x:cm)(c:ju)(y:cm)(a:ju):Bool:=
 qW c.k (y.rd++y.i.hw)&&qW a.k (x.rd++x.i.hw)&&GQ c.w (a.r++a.w)&&GQ a.w c.r&&pO c a&&pO a c&&sf c a&&sf a c
def GR:List cm->List (List Nat)->List (cm×ju)->Nat->ag->(ag->R)->R
 |[],_,_,_,st,K=>K st
 |g::l,c,acc,id,st,K=>
  LM ad ar A gl id g st λa=>
  A.guard ((c.headD []).all λi=>match acc[i]? with
   |some (x,d)=>LO x d g (GO ad ar gl id g st a)
   |none=>false) <|
  GR l c.tail (acc++[(g,GO ad ar gl id g st a)]) (kO (ic g.i) (λ_=>id+1) (λ_=>id)) a K
def LP(l:List cm)(a:List (List Nat))(st:ag)(K:ag->R):R:=GR ad ar A gl l a [] st.s.length (st.room (pP l)) K
def Dl(Y:jb R)(yi:Nat)(i:I)(st:ag)(p:Option aD)(K:ag->Option aD->R):R:=
 match BO gl st i,i with
 |.f' j,.cl d _ args=>A.guard (Nat.beq j yi) (BN A gl Y d args st p K)
 |_,i=>jm ad ar A gl i st λst=>K st p
def tf(Y:jb R)(yi:Nat):List cm->ag->Option aD->(ag->Option aD->R)->R
 |[],a,p,K=>K a p
 |⟨none,i⟩::l,a,p,K=>Dl ad ar A gl Y yi i a p λa p=>tf Y yi l a p K
 |⟨some (s,want),i⟩::l,a,p,K=>match a.aR s with
  |.d (.bool b)=>match want with
   |true=>(match b with
    |true=>Dl ad ar A gl Y yi i a p λa p=>tf Y yi l a p K
    |false=>tf Y yi l (a.dQ i.dst (.tuple [])) p K)
   |false=>(match b with
    |true=>tf Y yi l (a.dQ i.dst (.tuple [])) p K
    |false=>Dl ad ar A gl Y yi i a p λa p=>tf Y yi l a p K)
  |.tuple []=>tf Y yi l (a.dQ i.dst (.tuple [])) p K
  |_=>A.fail
def pr(Y:jb R)(yi:Nat):eL->ag->Option aD->(aD->ag->Option aD->R)->R
 |.skip,d,p,K=>K .normal d p
 |.ops l,d,p,K=>tf ad ar A gl Y yi l d p (K .normal)
 |.any l g,d,p,K=>LP ad ar A gl l g d λd=>K .normal d p
 |.bad,_,_,_=>A.fail
 |.seq a b,d,p,K=>pr Y yi a d p λx d p=>match x with
  |.normal=>pr Y yi b d p K
  |x=>K x d p
 |.cond c a b,d,p,K=>match aO gl d c with
  |.d (.bool t)=>match t with
   |true=>pr Y yi a d p K
   |false=>pr Y yi b d p K
  |_=>A.fail
 |.block i b,d,p,K=>pr Y yi b d p λx d p=>match x with
  |.exit j=>cond (Nat.beq j i) (K .normal d p) (K (.exit j) d p)
  |x=>K x d p
 |.loop ts bs b,d,p,K=>A.guard p.isNone <| AS ad ar A d.s.length ts bs d λm=>
  A.fix (λf k=>pr Y yi b f none λx d p=>match x with
   |.normal=>A.guard p.isNone (AS ad ar A f.s.length ts bs d k)
   |x=>K x d p) m
 |.iy _ _ _ _,_,_,_=>A.fail
 |.exit i,d,p,K=>K (.exit i) d p
 |.ret,d,p,K=>K .ret d p
def GU(j f:ag->(aD->ag->R)->R)(ps:List Nat)(g:Nat)(d:List ah)(st:ag)(K:aD->ag->R):R:=
 A.iter g λa=>A.guard a.res.isEmpty <|
  pr ad ar A gl (sh A j f ps st.lP) st.s.length a.code {aR:=sg (.f' st.s.length::d) 0,bM:=λ_=>none,s:=st.s++[.dead]} none λe c p=>match e with
   |.exit _=>A.fail
   |_=>K (p.getD .normal) {st.lP with s:=c.s}
def h0:eL->ag->(aD->ag->R)->R
 |.skip,d,K=>K .normal d
 |.ops l,d,K=>td ad ar A gl l d (K .normal)
 |.any l k,d,K=>LP ad ar A gl l k d (K .normal)
 |.bad,_,_=>A.fail
 |.seq a b,d,K=>h0 a d λx d=>match x with
  |.normal=>h0 b d K
  |x=>K x d
 |.cond c a b,d,K=>match aO gl d c with
  |.d (.bool t)=>match t with
   |true=>h0 a d K
   |false=>h0 b d K
  |_=>A.fail
 |.block i b,d,K=>h0 b d λx d=>match x with
  |.exit j=>cond (Nat.beq j i) (K .normal d) (K (.exit j) d)
  |x=>K x d
 |.loop ts bs b,d,K=>AS ad ar A d.s.length ts bs d λo=>
  A.fix (λf n=>h0 b f λx d=>match x with
   |.normal=>AS ad ar A f.s.length ts bs d n
   |x=>K x d) o
 |.iy x ps a b,d,K=>match aO gl d x with
  |.func g [] m=>GU ad ar A gl (h0 a) (h0 b) ps g m d K
  |.d (.fn g)=>GU ad ar A gl (h0 a) (h0 b) ps g [] d K
  |_=>A.fail
 |.exit i,d,K=>K (.exit i) d
 |.ret,d,K=>K .ret d
def uW(a:aW)(args:List ah)(s:aY)(K:ah->aY->R):R:=
 h0 ad ar A gl a.code {aR:=sg args 0,bM:=λ_=>none,s} λx c=>match x with
  |.exit _=>A.fail
  |_=>match q4 c a.res with
   |some r=>A.guard (eo depth r) (LI ad ar s.length r c.s K)
   |none=>A.fail
end
section
variable {ar:List Nat}{R:Type}{A:mT R}{gl:Nat->List D}
theorem ayd:T' bd.bU=BJ:=by funext op k a b;cases op<;>rfl
theorem aye:Ua bd.bU=xj:=by funext op k a b;cases op<;>rfl
theorem ayf:Ub bd.bU=BK:=by funext op a b;cases op<;>rfl
theorem Ue(i:Nat)(o:cc):LF bd.bU ar i o=o.refs:=aBK
theorem Uf(f:Nat->Nat)(i:Nat)(o:cc):LG bd.bU ar f i o=o.ren f:=aBK
theorem amH(n i:Nat)(o:cc):Uc bd.bU ar n i o=o.fB n:=aBK
theorem LQ(s:aY):∀(n:Nat) (a acc:List Nat),AR bd.bU ar s n a acc=reach s n a acc
 |0,_,_=>rfl
 |_+1,[],_=>rfl
 |n+1,i::a,acc=>by simp[AR,reach,Ue,LQ s n,T9]
theorem amI(s:aY)(a:List Nat)(args:List ah):LH bd.bU ar s a args=closed s a args:=by grind[LH,closed,Ue]
theorem Ug(f:Nat->Nat):∀(p:Nat) (l:List cc),GK bd.bU ar f p l=l.map (cc.ren f)
 |_,[]=>rfl
 |p,o::l=>by simp[GK,Uf,Ug f (p+1) l,aDe]
theorem LR(n:Nat):∀(p:Nat) (l:List cc),Dk bd.bU ar n p l=l.all (cc.fB n)
 |_,[]=>rfl
 |p,o::l=>by simp[Dk,amH,LR n (p+1) l,aEI]
theorem amJ(f:Nat)(args:List ah)(s:aY)(K:ah->aY->R):GL bd.bU ar A f args s K=lp A f args s K:=by
 cases ar with
 |nil=>rfl
 |cons a l=>grind[GL,lp,amE,LQ,amI,Uf,Ug]
theorem Uh(n:Nat)(ts c:List Nat)(st:ag)(K:ag->R):AS bd.bU ar A n ts c st K=forget A n ts c st K:=by
 cases ar with
 |nil=>rfl
 |cons a l=>
  simp[AS,forget,EI,LR];grind
theorem amK(n:Nat)(r:ah)(s:aY)(K:ah->aY->R):LI bd.bU ar n r s K=K r (gc n r s):=by
 cases ar with
 |nil=>rfl
 |cons a l=>
  simp[LI,gc,LR];grind
theorem amL(a:Nat)(i:I)(st:ag):LL bd.bU ar gl a i st=ku gl i st:=by
 cases i<;>first|rfl|(unfold LL;cases du a ar<;>rfl)
theorem Ui(i:Nat):∀(n:Nat) (s:aY) (j:Nat),GM bd.bU i s j n=qZ i s j n
 |0,_,_=>rfl
 |n+1,s,j=>by
  have h:Ud bd.bU s i j=xk s i j:=rfl;simp[GM,qZ,h];cases xk s i j with
  |none=>rfl
  |some a=>exact Ui i n a (j+1)
theorem amM(s:aY)(k off len cap sz:Nat):pN s (.aP k off len cap sz)=match s.getD k .dead with
  |.box bs=>(match bd.bU.AP off len cap sz bs with
   |some y=>some (y,k)
   |none=>none)
  |_=>none:=by
 simp[pN,bd.bU];grind
theorem amN(i:I)(st:ag)(K:ag->R):pq bd.bU ar A gl i st K=step A gl i st K:=by
 cases i;case cl d f args=>
  simp[pq,step,amJ];rfl
 case pL d x=>
  simp[pq,step,Ui];rfl
 case nH d own x=>
  simp[pq,step];cases aO gl st x<;>try rfl
  grind[oD,amM]
 case aE d a n aw=>
  simp[pq,step,T7];cases aO gl st a<;>try first|rfl|(refine oD _ ?_;rfl)
  grind
 case hs a x n=>
  simp[pq,step];cases aO gl st a<;>first|rfl|(refine oD _ ?_;rfl)
 case aK d a=>
  simp[pq,step,T7];cases aO gl st a<;>first|rfl|(refine oD _ ?_;rfl)
 case oV d x z=>
  simp[pq,step];cases aO gl st x<;>first|rfl|(refine oD _ ?_;rfl)
 case mk d sz z n p=>
  simp[pq,step];cases aO gl st n<;>try rfl
  rename_i x;cases x<;>first|rfl|(refine oD _ ?_;rfl)
 case aP d r x lo hi s=>
  simp[pq];split
  .rename_i e;refine oD _ ?_;have h1:∀(l m:Int) (x y:ag),(match bd.bU.aB .eql l m with|true=>K x|false=>K y)=K (cond (decide (l=m)) x y):=by
    intro l m x y;show(match decide (l=m)with|true=>K x|false=>K y)=_;grind
   have o:∀(b:Bool) (x y:ah),st.set d (cond b x y)=cond b (st.set d x) (st.set d y):=az7;simp[step,e,h1,o];rfl
  .rename_i e;simp[step];cases hJ (aO gl st x)<;>rfl
 case gJ d x off=>
  simp[pq,step];cases aO gl st x<;>first|rfl|(refine oD _ ?_;rfl)
 case oU aw ks m k x=>
  have bB:∀(c:List (D×ah)) (k:D) (x:ah) (F:List (D×ah)->R),(match bd.bU.yt aw ks k x c with
   |some g=>F g
   |none=>A.fail)=match e4 aw ks k c 0 with
    |some j=>F (nI c k x j)
    |none=>A.fail:=by
   intro c k x F;show(match rL aw ks k x c with
    |some g=>F g
    |none=>A.fail)=_
   grind[rL]
  simp[pq,step,bB];grind[oD]
 all_goals rfl
theorem GV(i:I)(st:ag)(K:ag->R):jm bd.bU ar A gl i st K=step A gl i st K:=by
 cases i;case ap d s x sz f=>
  simp[jm,step,hT];cases st.aR s<;>rfl
 case nF d s x sz f=>
  simp[jm,step,hT];cases st.aR s<;>rfl
 case nG d s x sz f=>
  simp[jm,step,hT];cases st.aR s<;>rfl
 case ln d s z i x sz f=>
  have h:∀a b c i n k t u,bd.bU.GJ a b c i n k (t&&u)=(Nat.beq a b&&Nat.beq c b&&decide (i=(n:Int))&&Nat.ble (n+1) k&&t&&u):=by
   intro a b c i n k t u;show(_&&(t&&u))=_;grind
  simp[jm,step,h];rfl
 case eq d neg aw ks x y=>
  have h:∀r:Bool,(match r with
   |true=>K (st.set d (.d (.bool (!neg))))
   |false=>K (st.set d (.d (.bool neg))))=K (st.set d (.d (.bool (cond neg (!r) r)))):=by
   simp
  simp[jm,step,h];rfl
 case un d op x=>
  have h:∀b:Bool,(match b with
   |true=>K (st.set d (.d (.bool false)))
   |false=>K (st.set d (.d (.bool true))))=K (st.set d (.d (.bool (!b)))):=by
   simp
  simp only[jm,step,h];rfl
 case mc d x i sz=>
  have h:∀(l:List D) (n:Int),(match bd.bU.get l n with
   |.agg cs=>K (st.set d (.d (.e2 cs 0)))
   |x=>K (st.set d (.d (.e2 [x] 0))))=K (st.set d (.d (.e2 (l.getD n.toNat .dJ).cells 0))):=by
   intro l n;show(match l.getD n.toNat .dJ with
    |.agg cs=>K (st.set d (.d (.e2 cs 0)))
    |x=>K (st.set d (.d (.e2 [x] 0))))=_
   cases l.getD n.toNat .dJ<;>rfl
  simp[jm,step,h];cases aO gl st i<;>try rfl
  rename_i y;cases y<;>try rfl
  cases aO gl st x<;>first|rfl|(refine oD _ ?_;rfl)
 case aH d aw ks m k z ok=>
  simp[jm];split
  .rename_i kl g e;simp[step,e];cases hI (aO gl st k)with
   |none=>rfl
   |some k=>
    have h:bd.bU.look aw ks k kl g=Di aw ks k kl g:=rfl;grind[Di]
  .rename_i i e;refine oD _ ?_;simp[step,e];cases hI (aO gl st k)with
   |none=>rfl
   |some k=>
    have h:∀es,bd.bU.yr aw ks k es=tc aw ks k es:=λ_=>rfl;grind[tc]
  .rfl
 all_goals (refine aCO ?_ (amN (ar:=ar) _ _ _);rfl)
theorem ayg{c:Type}{b:Bool}{x y a y':c}(h1:x=a)(d:y=y'):(match b with|true=>x|false=>y)=cond b a y':=az9
theorem LS:∀(l:List cm) (st:ag) (K:ag->R),td bd.bU ar A gl l st K=steps A gl l st K
 |[],st,K=>rfl
 |⟨none,i⟩::l,st,K=>by
  unfold td steps;rw[GV];exact congrArg _ (funext λst=>LS l st K)
 |⟨some (s,want),i⟩::l,st,K=>by
  simp[td,steps,GV,LS l];cases st.aR s<;>try rfl
  .rename_i x;cases x<;>try rfl
   rename_i b;cases want<;>cases b<;>rfl
  .rename_i vs;cases vs<;>rfl
theorem amO(g:cm)(st:ag)(K:ag->R):LK bd.bU ar A gl g st K=step1 A gl g st K:=by
 grind[LK,step1,GV]
theorem amP(a:Nat)(g:cm)(st:ag)(K:ag->R):GN bd.bU ar A gl a g st K=match g.g,ku gl g.i st with
  |none,some (o,d,v)=>A.guard (Nat.blt a st.s.length) (K ({st with s:=st.s.set a o}.set d (v a)))
  |_,_=>A.fail:=by
 grind[GN,amL]
theorem amQ:LO=BM:=by
 have h:GQ=mU:=by
  funext a b;unfold GQ mU;congr 1;grind
 grind[LO,BM]
theorem amR(a:Nat)(g:cm)(st:ag)(K:ag->R):LM bd.bU ar A gl a g st K=kV A gl a g st K:=by
 simp[LM,kV,amO,amP,T9];obtain⟨j,f⟩:=g;cases j with
 |some _=>simp
 |none=>
  cases f<;>try rfl
  rename_i d sz z n c;cases du a ar with
  |false=>rfl
  |true=>
   simp[ku];cases aO gl st n<;>try rfl
   rename_i x;cases x<;>try rfl
   rename_i k m;show(match (decide (0<=m)&&decide (m<=(c:Int)))with
    |true=>wA A _ _
    |false=>A.fail)=(match (none:Option (Nat×Bool)),(cond (decide (0<=m)&&decide (m<=(c:Int))) (some (cc.box (List.replicate m.toNat z).flatten,d,λi=>ah.aP i 0 m.toNat m.toNat sz)) none)with
    |none,some (o,d,v)=>A.guard (Nat.blt a st.s.length) (K ({st with s:=st.s.set a o}.set d (v a)))
    |_,_=>A.fail)
   cases decide (0<=m)&&decide (m<=(c:Int))<;>rfl
theorem amS(d:Nat)(g:cm)(st c:ag):GO bd.bU ar gl d g st c=vA gl d g st c:=by
 obtain⟨f,a⟩:=g;cases f with
 |some _=>cases a<;>rfl
 |none=>
  cases a<;>try rfl
  simp only[GO,LN,LQ];rfl
theorem Uj:∀(l:List cm) (a:List (List Nat)) (acc:List (cm×ju)) (c:Nat) (st:ag) (K:ag->R),GR bd.bU ar A gl l a acc c st K=q2 A gl l a acc c st K
 |[],_,_,_,_,_=>rfl
 |g::l,a,acc,c,st,K=>by
  simp[GR,q2,amR,amS,amQ,Uj l];rfl
theorem Uk:@LP bd.bU ar R A gl=q3 A gl:=by
 funext l a st K;exact Uj _ _ _ _ _ _
theorem amT(Y:jb R)(yi:Nat):∀(l:List cm) (st:ag) (p:Option aD) (K:ag->Option aD->R),tf bd.bU ar A gl Y yi l st p K=ie A gl Y yi l st p K:=by
 have bB:∀i st p K,Dl bd.bU ar A gl Y yi i st p K=mV A gl Y yi i st p K:=by
  intro i st p K;simp[Dl,mV,GV];rfl
 intro l;induction l with
 |nil=>intro st p K;rfl
 |cons g l ih=>
  intro st p K;obtain⟨a,i⟩:=g;cases a with
  |none=>simp_all[tf,ie]
  |some q=>
   obtain⟨s,c⟩:=q;simp[tf,ie,bB,ih];grind
theorem amU(Y:jb R)(yi:Nat):∀(c:eL) (st:ag) (p:Option aD) (K:aD->ag->Option aD->R),pr bd.bU ar A gl Y yi c st p K=hx A gl Y yi c st p K:=by
 intro c;induction c with
 |ops l=>intro st p K;exact amT Y yi l st p _
 |any l g=>simp_all[pr,hx,Uk]
 |seq a b f d=>
  intro st p K;simp[pr,hx,f,d];rfl
 |cond c a b f d=>
  grind[pr,hx]
 |block i b ih=>
  intro st p K;simp[pr,hx,ih];rfl
 |loop ts bs b ih=>
  intro st p K;simp[pr,hx,ih,Uh];rfl
 |_=>intro st p K;rfl
theorem GY:∀(c:eL) (st:ag) (K:aD->ag->R),h0 bd.bU ar A gl c st K=run A gl c st K:=by
 intro c;induction c with
 |ops l=>intro st K;exact LS l st _
 |any l p=>simp_all[h0,run,Uk]
 |seq a b k j=>
  intro st K;simp[h0,run,k,j];rfl
 |cond c a b k j=>
  grind[h0,run]
 |block i b ih=>
  intro st K;simp[h0,run,ih];rfl
 |loop ts bs b ih=>
  intro st K;simp[h0,run,ih,Uh];rfl
 |iy x d a b k j=>
  intro st K;have h1:h0 bd.bU ar A gl a=run A gl a:=az9;have n:h0 bd.bU ar A gl b=run A gl b:=az9;have o:∀m iy d g f st K,GU bd.bU ar A gl m iy d g f st K=pQ A gl m iy d g f st K:=by
   intro m iy d g f st K;simp[GU,pQ,amU];rfl
  grind[h0,run]
 |_=>intro st K;rfl
theorem Ul(a:aW)(args:List ah)(s:aY)(K:ah->aY->R):uW bd.bU ar A gl a args s K=mf A gl a args s K:=by
 simp[uW,mf,GY,amK];rfl
end
section
variable {P:Program}{gl:Nat->List D}
theorem a6.fX(ar:List Nat){f:Nat}{c:aW}{args:List ah}{s s':aY}{r:ah}(h:a6 P f c)(d:∀a,a=bd.bU->∀Q:ah->aY->Prop,Q r s'->uW a ar (bA P gl) gl c args s Q):bD P gl f args s r s':=by
 have:=d _ rfl (λg j=>g=r/\j=s') ⟨rfl,rfl⟩;grind[Ul,hB]
theorem a6.ct{f:Nat}{c:aW}{args:List ah}{s s':aY}{r:ah}(h:a6 P f c)(d:∀a,a=bd.bU->∀Q:ah->aY->Prop,Q r s'->uW a [] (bA P gl) gl c args s Q):bD P gl f args s r s':=h.fX [] d
theorem a6.iX(ar:List Nat){f:Nat}{c:aW}{args:List ah}{s:aY}(Q:ah->aY->Prop)(h:a6 P f c)(d:∀a,a=bd.bU->∀K:ah->aY->Prop,(∀r s,Q r s->K r s)->uW a ar (fR P gl) gl c args s K):∃r s',Q r s'/\bD P gl f args s r s':=by
 have:=d _ rfl _ λ_ _ h=>h;rw[Ul]at this;obtain⟨r,s',h1,g⟩:=h.ext this;grind
theorem a6.cn{f:Nat}{c:aW}{args:List ah}{s:aY}(Q:ah->aY->Prop)(h:a6 P f c)(d:∀a,a=bd.bU->∀K:ah->aY->Prop,(∀r s,Q r s->K r s)->uW a [] (fR P gl) gl c args s K):∃r s',Q r s'/\bD P gl f args s r s':=h.iX [] Q d
theorem Dm(s:List UInt8):∀(es:List (D×ah)) (i:Nat),(∀e∈es,∃t,e.1=.str t)->e4 false [2] (.str s) es i=some none\/∃j,j<es.length/\e4 false [2] (.str s) es i=some (some (i+j))
 |[],i,_=>.inl rfl
 |e::es,i,h=>by
  obtain⟨t,c⟩:=h e aDa;obtain⟨k,v⟩:=e;subst c;cases f:decide (s=t)with
  |true=>
   refine .inr ⟨0,aFy _,?_⟩;show(match some (decide (s=t)&&true)with|some true=>some (some i)|some false=>e4 false [2] (.str s) es (i+1)|none=>none)=_;simp_all
  |false=>
   have a:e4 false [2] (.str s) ((.str t,v)::es) i=e4 false [2] (.str s) es (i+1):=by
    show(match some (decide (s=t)&&true)with|some true=>some (some i)|some false=>e4 false [2] (.str s) es (i+1)|none=>none)=_;rw[f];rfl
   rw[a];rcases Dm s es (i+1) λe g=>h e (aDu _ g)with h1|⟨j,h1,d⟩
   .exact .inl h1
   .exact .inr ⟨j+1,aFz h1,by rw[d];congr 2;omega⟩
theorem amV{a:bd}(c:a=bd.bU)(s:List UInt8){kl vl:List D}(f:∀k∈kl,∃t,k=.str t)(g:kl.length=vl.length):∃o,a.look false [2] (.str s) kl vl=some o/\∀v,o=some v->v∈vl:=by
 subst c;show ∃o,Di false [2] (.str s) kl vl=some o/\_;unfold Di;rcases Dm s ((kl.zip vl).map λe=>(e.1,ah.d e.2)) 0 (λe d=>by
  obtain⟨p,hp,rfl⟩:=aCY.1 d;exact f _ (List.of_mem_zip hp).1)with h|⟨j,h1,l⟩
 all_goals simp_all
theorem bS{Q:ah->aY->Prop}{r a:ah}{s s':aY}(h:Q r s)(h1:r=a)(c:s=s'):Q a s':=az8
def bX{c:Type}(S:c->ag)(J:c->Prop)(μ:c->Nat)(n:Nat)(st:ag):Prop:=∃a,J a/\μ a=n/\st=S a
theorem ea{a:Type}{S:a->ag}{J:a->Prop}{μ:a->Nat}{n:Nat}{st:ag}(b:a)(au:J b)(d:μ b<n)(c:st=S b):∃m,m<n/\bX S J μ m st:=⟨_,d,b,au,rfl,c⟩
theorem dD{f:Nat}{a:List ah}{s:aY}{r:ah}{t:aY}{K:ah->aY->Prop}(c:K r t)(h:bD P gl f a s r t:=by assumption):∃r s2,bD P gl f a s r s2/\K r s2:=⟨r,t,h,c⟩
theorem dE{a b:Prop}(k:b)(h:a:=by first|assumption|(simp only[aH ae,aCx,aCA,aCv,aCU,aDm,aCF,aE',true_and,aCy];omega)):a/\b:=⟨h,k⟩
theorem ayh{f:Nat}{a:List ah}{s:aY}{r:ah}{t:aY}{K:ah->aY->Prop}(h:bD P gl f a s r t)(c:K r t):∃r s2,bD P gl f a s r s2/\K r s2:=⟨r,t,h,c⟩
end
section
variable {P:Program}{gl:Nat->List D}{ad:bd}{ar:List Nat}
theorem amW(d:ad=bd.bU){a b:eL}{st:ag}{K:aD->ag->Prop}(qq:aD->ag->Prop)(h1:h0 ad ar (fR P gl) gl a st qq)
  (f:∀x c,qq x c->(match x with
   |.normal=>h0 ad ar (fR P gl) gl b c K
   |x=>K x c)):h0 ad ar (fR P gl) gl (.seq a b) st K:=by
 subst d;rw[GY]at h1;obtain⟨e,l,j,k⟩:=Sj (bt:=λ_ _=>False) h1;have g:=f e l j;show h0 bd.bU ar (fR P gl) gl a st _;rw[GY];exact k _ g
def GZ:List eL->eL->eL
 |[],c=>c
 |a::l,c=>.seq a (GZ l c)
theorem yu(j:ad=bd.bU):∀(l:List eL) {c:eL} {st:ag} {K:aD->ag->Prop} (qq:aD->ag->Prop),h0 ad ar (fR P gl) gl (GZ l .skip) st qq->
  (∀x f,qq x f->(match x with
   |.normal=>h0 ad ar (fR P gl) gl c f K
   |x=>K x f))->h0 ad ar (fR P gl) gl (GZ l c) st K
 |[],c,st,K,qq,h1,d=>d .normal st h1
 |a::l,c,st,K,qq,h1,d=>by
  refine amW j (λx st=>match x with
   |.normal=>h0 ad ar (fR P gl) gl (GZ l .skip) st qq
   |x=>qq x st) h1 λx f g=> ?_
  cases x with
  |normal=>exact yu j l qq g d
  |exit i=>exact d _ _ g
  |ret=>exact d _ _ g
def Dn(aR:Nat->ah):List (Nat×ah)->Nat->ah
 |[]=>aR
 |(k,v)::l=>cK (Dn aR l) k v
theorem LU{aR:Nat->ah}:∀{l:List (Nat×ah)},(∀p∈l,aR p.1=p.2)->Dn aR l=aR
 |[],_=>rfl
 |(k,v)::l,h=>by
  show cK (Dn aR l) k v=aR;rw[LU (λp hp=>h p (aDu _ hp))];funext j;rw[dm];split
  .rename_i e;subst e;exact(h (j,v) aDa).symm
  .rfl
def qs(st:ag)(l:List (Nat×ah))(bM:Nat->Option (List ah))(s:aY):Prop:=(∀p∈l,st.aR p.1=p.2)/\st.bM=bM/\st.s=s
theorem qs.eq{st:ag}{l:List (Nat×ah)}{bM:Nat->Option (List ah)}{s:aY}(h:qs st l bM s):st=⟨Dn st.aR l,bM,s⟩:=by
 obtain⟨aR,d,f⟩:=st;obtain⟨h1,a,c⟩:=h;grind[LU]
end
def aGb:=@Nat.lt_of_succ_lt_succ
def aD7:=@List.mem_or_eq_of_mem_set
def aGc:=@List.take_append_of_le_length
def aCI:=@decide_eq_true
theorem aAn(h:p:=by subst h;rfl):p:=h
theorem amX{a:Type}{o:Option a}{x:a}{K:a->Prop}:o=some x->K x->(match o with|some y=>K y|none=>False):=λh k=>az8
theorem amY{b:Bool}{K:Prop}:b=true->K->(match b with|true=>K|false=>False):=λh k=>az8
theorem ayj{R:Type}{A:mT R}{gl:Nat->List D}{a:bd}(h:a=bd.bU){ar d:List Nat}{c:eL}{st:ag}{K:aD->ag->R}:h0 a ar A gl c st K=h0 a d A gl c st K:=by
 grind[GY]
theorem LV:∀(vs a b:List ah),putCells a 0 vs=putCells a 0 vs->∀(c:List ah) (j:Nat),j+vs.length<=b.length->putCells (a++(b++c)) (a.length+j) vs=a++(putCells b j vs++c)
 |[],_,_,_,_,_,_=>rfl
 |v::vs,a,b,_,c,j,h=>by
  have d:(v::vs).length=vs.length+1:=rfl;show putCells ((a++(b++c)).set (a.length+j) v) (a.length+j+1) vs=a++(putCells (b.set j v) (j+1) vs++c);rw[List.set_append_right _ _ az6,show a.length+j-a.length=j by omega,List.set_append_left _ _ az6,aEg];exact LV vs a (b.set j v) rfl c (j+1) (by rw[aDE];omega)
theorem am0:∀(vs:List ah) (b:List ah) (j:Nat),(putCells b j vs).length=b.length
 |[],_,_=>rfl
 |v::vs,b,j=>by
  show(putCells (b.set j v) (j+1) vs).length=_;rw[am0 vs,aDE]
def kP(z:Nat)(rows:List (List ah)):Prop:=∀r∈rows,r.length=z
theorem kP.len{z:Nat}:∀{rows:List (List ah)},kP z rows->rows.flatten.length=rows.length*z
 |[],_=>az7
 |r::rows,h=>by
  have:=kP.len (rows:=rows) (λx c=>h x (aDu _ c));have a:=h r aDa;rw[List.flatten_cons,aCF,this,a,aCU,aDx];omega
theorem kP.cut{z:Nat}:∀{rows:List (List ah)},kP z rows->∀{i:Nat} (h:i<rows.length),∃a b,rows.flatten=a++(rows[i]++b)/\a.length=i*z/\∀c,(rows.set i c).flatten=a++(c++b)
 |r::rows,_,0,_=>⟨[],rows.flatten,rfl,az7,λc=>rfl⟩
 |r::rows,aM,i+1,h=>by
  obtain⟨a,b,h1,d,g⟩:=kP.cut (rows:=rows) (λx f=>aM x (aDu _ f)) (i:=i) (aGb h);refine⟨r++a,b,?_,?_,λc=> ?_⟩
  .show r++rows.flatten=_;rw[h1,aDK];rfl
  .rw[aCF,d,aM r aDa,aDx];omega
  .show r++(rows.set i c).flatten=_;rw[g,aDK]
theorem kP.set{z:Nat}{rows:List (List ah)}(a:kP z rows)(i:Nat){r:List ah}(d:r.length=z):kP z (rows.set i r):=λx c=>by
 rcases aD7 c with h|rfl
 .exact a x h
 omega
theorem kP.put{z:Nat}{rows:List (List ah)}(c:kP z rows){i:Nat}(h:i<rows.length){j:Nat}{vs:List ah}(g:j+vs.length<=z):putCells rows.flatten (i*z+j) vs=(rows.set i (putCells rows[i] j vs)).flatten:=by
 obtain⟨a,b,h1,d,f⟩:=c.cut h;rw[h1,f,<-d];exact LV vs a _ rfl b j (by rw[c _ (aCC h)];omega)
theorem kP.get{z:Nat}{rows:List (List ah)}(c:kP z rows){i:Nat}(h:i<rows.length){j:Nat}(d:j<z):rows.flatten.getD (i*z+j) .undef=rows[i].getD j .undef:=by
 obtain⟨a,b,h1,f,_⟩:=c.cut h;have:=c _ (aCC h);grind
theorem kP.row{z:Nat}{rows:List (List ah)}(c:kP z rows){i:Nat}(h:i<rows.length):(rows.flatten.drop (i*z)).take z=rows[i]:=by
 obtain⟨a,b,h1,d,_⟩:=c.cut h;have:=c _ (aCC h);simp_all
theorem kP.sub{z:Nat}{rows:List (List ah)}(c:kP z rows){i:Nat}(h:i<rows.length){j n:Nat}(f:j+n<=z):(rows.flatten.drop (i*z+j)).take n=(rows[i].drop j).take n:=by
 obtain⟨a,b,h1,d,_⟩:=c.cut h;have:=c _ (aCC h);rw[h1,<-d,<-aFe,List.drop_left,List.drop_append_of_le_length az6,aGc az9]
section
variable {ad:bd}(h:ad=bd.bU){z:Nat}{rows:List (List ah)}(aM:kP z rows){i:Nat}(hi:i<rows.length)
include h
theorem kf(i z:Nat):ad.la 0 (Int.ofNat i) z=i*z:=by
 simp_all[uV]
theorem qt(a b:Nat):ad.l3 a b=a+b:=aAn
include aM hi
theorem LW{j n:Nat}(a:j+n<=z):ad.ha (i*z+j) n rows.flatten true=true:=by
 rw[(uV h).2.1,aCI ?_];rfl;rw[aM.len];have:(i+1)*z<=rows.length*z:=aDi _ hi;grind
theorem G1{j n:Nat}(a:j+n<=z):ad.lE true (i*z+j) n rows.flatten true=true:=by
 rw[(uV h).2.2.1,aCI ?_];rfl;rw[aM.len];have:(i+1)*z<=rows.length*z:=aDi _ hi;grind
theorem am1{j:Nat}(a:j<z):ad.AL (i*z+j) rows.flatten=true:=by
 rw[(uV h).2.2.2.1,aCI ?_];rw[aM.len];have:(i+1)*z<=rows.length*z:=aDi _ hi;grind
theorem LX:ad.l0 rows.flatten (i*z) z=cX (.agg rows[i]):=by
 subst h;show cX (.agg ((rows.flatten.drop _).take _))=_;rw[aM.row hi]
theorem Um{j n:Nat}(a:j+n<=z):ad.l0 rows.flatten (i*z+j) n=cX (.agg ((rows[i].drop j).take n)):=by
 subst h;show cX (.agg ((rows.flatten.drop _).take _))=_;rw[aM.sub hi a]
theorem am2{j:Nat}(a:j<z):ad.kM rows.flatten (i*z+j)=snap (rows[i].getD j .undef):=by
 subst h;show snap (rows.flatten.getD _ _)=_;rw[aM.get hi a]
theorem am3{j:Nat}(a:j<z):ad.Df rows.flatten (i*z+j)=rows[i].getD j .undef:=by
 subst h;show rows.flatten.getD _ _=_;rw[aM.get hi a]
theorem am4{j:Nat}(a:j<z):ad.Dg rows.flatten (i*z+j)=some (rows.set i (rows[i].set j .undef)).flatten:=by
 subst h;exact congrArg some (aM.put hi (j:=j) (vs:=[.undef]) a)
theorem G2{j:Nat}{vs:List ah}(a:j+vs.length<=z):ad.kN rows.flatten (i*z+j) vs=some (rows.set i (putCells rows[i] j vs)).flatten:=by
 subst h;exact congrArg some (aM.put hi a)
end
open Go.RowKit Go.Sort
section
variable {P:Program}{gl:Nat->List D}{w:World}{G:bL}{ρ:List Nat}
def G3:List D:=Lib.pow10Tab.map λz=>.int .u64 z
structure G4(P:Program)(gl:Nat->List D)(f uX:Nat):Prop where
 name:P.globalNamed "internal/strconv.uint64pow10" =some uX
 tab:gl uX=G3
 all:∀(n:Int),-9223372036854775808<=n->n<=9223372036854775807->∀w:World,Lib.TabIs P w "internal/strconv.uint64pow10" .u64 Lib.pow10Tab->
  Calls P f #[.int .i64 n] w λe w'=>e=.returned (.string ⟨(Lib.itoa n).toArray⟩)/\Below w.heap.size w w'
theorem Un{k:IntKind}:∀{zs:List Int} {vs:List Value},cw w G vs (zs.map λz=>.int k z)->vs=zs.map λz=>.int k z
 |[],_,h=>by cases h;rfl
 |z::zs,_,h=>by
  cases h with
  |cons v _ vs _ h1 a=>
   cases h1;rw[Un a];rfl
theorem am5{f d:Nat}(J:G4 P gl f d)(g:pU gl w G):Lib.TabIs P w "internal/strconv.uint64pow10" .u64 Lib.pow10Tab:=by
 have h1:=g.1 d;have a:=g.2 d;rw[J.tab]at h1 a;have n:(G3).length=20:=by grind[G3,Lib.pow10Tab_length]
 rcases a with a|⟨c,E,r,⟨_,_,a⟩,o⟩
 .omega
 .generalize hp:Value.pointer (some ⟨d,0,none⟩)=q at h1;cases h1 with
  |e2 b base off vs cs k l=>
   simp at hp;obtain⟨rfl,hp⟩:=hp;have au:base=0:=az6;have t:=Un l;have u:vs.length=20:=by grind[Lib.pow10Tab_length]
   unfold Lib.TabIs World.var?;rw[J.name];simp[aFk,a,aCz];apply Array.ext
   .simp_all
   .intro j p s;have m:vs[j]?=some (vs[j]' az6):=aCB _;have:=(k j _ m).1;unfold World.cell? at this;grind
theorem am6{f l:Nat}{n:Int}{s:aY}(j:gq P f)(J:G4 P gl f l)(bB: -9223372036854775808<=n)(h1:n<=9223372036854775807):bD P gl f [.d (.int .i64 n)] s (.d (.str (Lib.itoa n))) s:=by
 refine wo j λw G ρ p m c k=> ?_;cases k with
 |cons v1 _ o _ a g=>
  cases g;cases a with
  |d _ _ a=>
   cases a;refine⟨_,J.all n bB h1 w (am5 J c),?_⟩;rintro e w' ⟨rfl,au⟩;exact⟨_,rfl,λ_=>.d _ _ (.str _ _ rfl),au⟩
theorem LY:∀(k n:Nat),n<10^(k+1)->(Lib.decDigits n).length<=k+1
 |0,n,h=>by simp_all[Lib.decDigits]
 |k+1,n,h=>by
  rw[Lib.decDigits];split
  .simp
  .have:=LY k (n/10) az6;simp_all
theorem am7{n:Int}(bB: -9223372036854775808<=n)(h1:n<=9223372036854775807):(Lib.itoa n).length<=20:=by
 unfold Lib.itoa;split
 .have:=LY 18 n.natAbs az6;simp_all
 .have:=LY 18 n.toNat az6;omega
end
section
variable {P:Program}{gl:Nat->List D}
def LZ(P:Program)(f:Nat):Prop:=∀(s:ByteArray) (c:Int) (w:World),Calls P f #[.string s,.int .u8 c] w λe w'=>e=.returned (.int .i64 (Lib.indexByte s.data.toList c.toNat.toUInt8))/\w'=w
theorem am8{f:Nat}{j:List UInt8}{c:Int}{s:aY}(m:gq P f)(J:LZ P f):bD P gl f [.d (.str j),.d (.int .u8 c)] s (.d (.int .i64 (Lib.indexByte j c.toNat.toUInt8))) s:=by
 refine wo m λw G v u r o n=> ?_;cases n with
 |cons v1 _ t _ g k=>
  cases k with
  |cons v3 _ p _ a l=>
   cases l;cases g with
   |d _ _ g=>
    cases g with
    |str b _ au=>
     cases a with
     |d _ _ a=>
      cases a;refine⟨_,J b c w,?_⟩;rintro e w' ⟨rfl,rfl⟩;exact⟨_,rfl,λ_=>by rw[au];exact .d _ _ (.int _ _),Below.refl _ _⟩
theorem Uo:∀(l:List UInt8) (c:UInt8),Lib.indexByte l c= -1\/∃k:Nat,k<l.length/\Lib.indexByte l c=Int.ofNat k
 |[],_=>.inl rfl
 |b::l,c=>by
  unfold Lib.indexByte;split
  .exact .inr ⟨0,az7,rfl⟩
  .split
   .exact .inl rfl
   .rename_i h1 a;rcases Uo l c with h|⟨k,hk,h⟩
    .rw[h]at a;exact absurd rfl a
    .exact .inr ⟨k+1,by simp;omega,by rw[h];rfl⟩
def aFA:=@Array.getElem?_append_left
def G5(P:Program)(f:Nat):Prop:=(∀(a g d:Nat) (c:List Int) (w:World),Holds (Value.int .i64) w a g c.toArray->a<w.heap.size->c.length<4611686018427387904->
 Calls P f #[.slice (some ⟨a,g,none⟩) c.length d] w λe w'=>e=.returned (.tuple #[])/\∃n os,w'=grow (putRow (Value.int .i64) (Sort.ahead w n) a g (c.mergeSort λx y=>decide (x<=y)).toArray) os)/\
 ∀(p:Option Addr) (d:Nat) (w:World),Calls P f #[.slice p 0 d] w λe w'=>e=.returned (.tuple #[])/\w'=w
theorem am9{w:World}{n b:Nat}{os:Array Obj}{zs:List Int}{c:Array Value}{E:TypeId}{fz:Nat×Nat}(au:w.heap[b]?=some (.cells c E fz)):
  (grow (putRow (Value.int .i64) (Sort.ahead w n) b 0 zs.toArray) os).heap[b]?=some (.cells (Sort.putCells (Value.int .i64) 0 zs.toArray c) E fz):=by
 have a:=(aC'.1 au).1;unfold grow putRow mapBlock;rw[aFA az8,aEl,aCT rfl];show(w.heap[b]?).map _=_;rw[au];rfl
theorem am'{w:World}{n b k:Nat}{os:Array Obj}{zs:List Int}(c:k<w.heap.size)(a:k≠b):
  (grow (putRow (Value.int .i64) (Sort.ahead w n) b 0 zs.toArray) os).heap[k]?=w.heap[k]?:=by
 unfold grow putRow mapBlock;rw[aFA az8,aEl,aCV (λh=>a h.symm)];rfl
theorem ana{f:Nat}(K:gq P f)(J:G5 P f)(zs:List Int)(aM:zs.length<=1073741824):
  bD P gl f [.aP 0 0 zs.length zs.length 1] [.box (zs.map λz=>ah.d (.int .i64 z))] (.tuple []) [.box ((zs.mergeSort λx y=>decide (x<=y)).map λz=>ah.d (.int .i64 z))]:=by
 refine⟨K,λw G o vs s aF F g=> ?_⟩;cases g with
 |cons v1 _ nM _ h1 C=>
  cases C;cases h1 with
  |aP _ _ _ _ R _ b hi iB cj=>
   obtain⟨c,E,U,au,Z,dh,Y,dn⟩:=(show dC w G o b (.obj 0) (.dk 0) _ from s.2 0 b _ hi rfl);rw[aCv]at Y;have B:=(aC'.1 au).1;have Jc:∀j (h:j<zs.length),c[j]?=some (.int .i64 zs[j]):=λj h=>by
    have r:c[j]?=some (c[j]' az6):=aDh _;have:=dn j _ (.d (.int .i64 zs[j])) r az7;rw[r];generalize c[j]' az6=v at*;cases (show c7 w G o v (.d (.int .i64 zs[j]))from this)with
    |d _ _ h=>cases h;rfl
   have V:Holds (Value.int .i64) w b 0 zs.toArray:=λj p=>by
    have p:=az6;rw[aDl];refine⟨?_,?_⟩
    .grind[cell_of_block]
    .rw[tZ au];grind
   refine(J.1 b 0 R zs w V B az6).mono ?_;rintro e w' ⟨rfl,n,os,rfl⟩;obtain⟨a,A⟩:∃a,a=zs.mergeSort λx y=>decide (x<=y):=⟨_,rfl⟩;have rl:a.length=zs.length:=az8;rw[<-A];have t:=am9 (n:=n) (os:=os) (zs:=a) au;have gM:(Sort.putCells (Value.int .i64) 0 a.toArray c).size=c.size:=by grind[Sort.putCells]
   obtain⟨H,M,N⟩:=GD (v:=.bool false) (G':=G) (s':=[cc.box (a.map λz=>ah.d (.int .i64 z))]) (o':=.box (a.map λz=>ah.d (.int .i64 z))) s F hi rfl dh (λad h=>by grind[Value.ownBlock])
    (w':=grow (putRow (Value.int .i64) (Sort.ahead w n) b 0 a.toArray) os)
    ⟨rfl,rfl,az7,λk X L _=>am' X L⟩ (λ_=>.inl rfl) (λk ao u Q=>by
     rcases u with rfl|u
     .obtain⟨c2,ub,pY,m,bG⟩:=Q;rw[au]at m;simp at m;obtain⟨rfl,_,_⟩:=m;exact⟨_,_,_,t,az6⟩
     grind[Value.ownBlock])
    (show dC _ _ _ _ _ _ _ from⟨_,E,U,t,λj p=>Z j az6,dh,az8,λj v x g l=>by
     rw[aDC]at l;have S:j<a.length:=az9;rw[aCB S]at l;simp at l;subst l;have xO:j<c.size:=az6;unfold Sort.putCells at g;rw[Array.getElem?_mapIdx,aDh xO]at g;have zO:0<=j/\j<0+a.toArray.size:=⟨aCu _,az8⟩;simp only[aDD,aCz,aCT zO]at g;subst g;have:a.toArray[j-0]! =a[j]:=az8;rw[this];exact .d _ _ (.int _ _)⟩)
   exact⟨_,G,o,rfl,.tuple [] _ .nil,H,M,N,λ_ _ h=>h⟩
theorem anb{f:Nat}(c:gq P f)(J:G5 P f):bD P gl f [.d (.list 1 [])] [] (.tuple []) []:=by
 refine wo c λw G o j l k g=> ?_;cases g with
 |cons v1 _ m _ h1 a=>
  cases a;cases h1 with
  |d _ _ h1=>
   have:∃p cap,v1=.slice p 0 cap:=by
    cases h1 with
    |kZ=>simp
    |list b off n cap _ _ j h=>simp_all
   obtain⟨p,cap,rfl⟩:=this;refine⟨_,J.2 p cap w,?_⟩;rintro e w' ⟨rfl,rfl⟩;exact⟨_,rfl,λ_=>.tuple [] _ .nil,Below.refl _ _⟩
end
open Go.RowKit Go.Sort Go.Lib
section
variable {P:Program}{gl:Nat->List D}
def L1(P:Program)(f sz T:Nat):Prop:=∃(c:TypeInfo) (z:Value),c.size=sz/\z.cells.size=sz/\0<sz/\c.bytes<=1000/\
 (∀(a:Option Addr) (w:World),Calls P f #[.slice a 0 0,.int .i64 0] w λe w'=>e=.returned (.slice a 0 0)/\w'=w)/\
 ∀(a:Option Addr) (n:Nat) (w:World),0<n->n*c.bytes<=140737488355328->n<=4611686018427387904->Calls P f #[.slice a 0 0,.int .i64 n] w λe w'=>
  e=.returned (.slice (some ⟨w.heap.size,0,none⟩) 0 (grownCap w n 0 T))/\w'=w.drew.alloc (.cells (Builtin.zeroCells z.cells n++Builtin.zeroCells z.cells (grownCap w n 0 T-n)) T)
theorem anc{f sz T n:Nat}(C:gq P f)(J:L1 P f sz T)(t:n<=1048576):
  bD P gl f [.own sz [],.d (.int .i64 (Int.ofNat n))] [] (.gH sz) []:=by
 obtain⟨L,z,h1,N,u,r,B,F⟩:=J;refine⟨C,λw G p V l M c m=> ?_⟩;cases m with
 |cons v1 _ S _ q1 A=>
  cases A with
  |cons v2 _ U _ g H=>
   cases H;cases g with
   |d _ _ g=>
    cases g;cases q1 with
    |nil a _=>
     rcases aFp n with rfl|K
     .refine(B a w).mono ?_;rintro e w' ⟨rfl,rfl⟩;exact⟨_,G,p,rfl,.inr ⟨a,rfl⟩,l,c,Good.refl c,λ_ _ h=>h⟩
     .have au:n*L.bytes<=140737488355328:=aDn (Nat.mul_le_mul t r) az';refine(F a n w K au az6).mono ?_;rintro e w' ⟨rfl,rfl⟩;have k:gD w (.cells (Builtin.zeroCells z.cells n++Builtin.zeroCells z.cells (grownCap w n 0 T-n)) T) (w.drew.alloc (.cells (Builtin.zeroCells z.cells n++Builtin.zeroCells z.cells (grownCap w n 0 T-n)) T)):=⟨rfl,rfl,rfl⟩;have R:=grownCap_ge w n 0 T;refine⟨_,fQ w G .res 0,p,rfl,.inl ⟨w.heap.size,0,grownCap w n 0 T,_,T,(0,0),[],rfl,aCu _,k.new,λj _ h=>az6,?_,u,by rw[fQ,iO];simp,λd E=>(aC5 E).elim,λj v m=>az8,.nil⟩,⟨l.1,λi b o _ Q=>az8⟩,k.lt c,k.good c az7,λ_ _ h=>h⟩;have s:(Builtin.zeroCells z.cells n++Builtin.zeroCells z.cells (grownCap w n 0 T-n)).size=n*sz+(grownCap w n 0 T-n)*sz:=aAQ;rw[s,<-aDx];simp_all
def aEv:=@Classical.choose_spec
theorem aAH(h:p:=by simp at hv):p:=h
def aDN:=@Int.ofNat_lt
def aC3:=@decide_eq_false
theorem aB'(h:p:=by subst h;exact aCI (aDN.2 hh)):p:=h
theorem aCa(h:p:=by subst h;exact aC3 λx=>hh (aDN.1 x)):p:=h
def aGf:=@Nat.le_succ_of_le
theorem aAI(h:p:=by subst ae;exact aq.symm):p:=h
theorem aBL(h:p:=by subst ae;exact aC3 (by omega)):p:=h
theorem aCb(h:p:=by simp only[aH h,aCx,aCA,aCy];omega):p:=h
theorem aAX(h:p:=by rw[bK,aCv];omega):p:=h
theorem aBM(h:p:=by simp only[aCF,aCU,aDm];omega):p:=h
def aFU:=@Int.ofNat_le
def aEf:=@Int.natCast_nonneg
def aC1:=@Exists.elim
theorem aAo(h:p:=by simp only[aCy];omega):p:=h
theorem aAY(h:p:=by cases x;rfl):p:=h
theorem aBa(h:p:=by grind[Step.d]):p:=h
def aDB:=@Bool.not_eq_false'
theorem aAJ(h:p:=by show 0+_<=_;omega):p:=h
theorem aBN(h:p:=by have:=h1.w (aq.bT he);omega):p:=h
theorem aBb(h:p:=by rw[aCR];exact e):p:=h
theorem aAf(h:p:=by grind[e6]):p:=h
theorem aAa(h:p:=by simp_all[aH]):p:=h
theorem aAg(h:p:=by simp only[aH ae,aCy,aCE];omega):p:=h
theorem aCc(h:p:=by simp only[aH ae,aCy,aCA];omega):p:=h
theorem aAh(h:p:=by simp only[aH ae,aCA,aCF,aCU,aDm];omega):p:=h
theorem aAj(h:p:=by simp only[aH ae,aCA,aCU,aDm];omega):p:=h
def aDg:=@List.take_add_one
theorem aAl(h:p:=by grind[dr]):p:=h
theorem aAm(h:p:=by rw[ae,e9,aCR];rfl):p:=h
theorem aAC(h:p:=by simp only[aH ae,aCF,aCU,aDm];omega):p:=h
theorem aAd(h:p:=by simp only[aH ae];decide):p:=h
theorem aCd(h:p:=by simp only[aH ae,aCE];simp):p:=h
theorem aBO(h:p:=by rw[<-aD.kn];cases x;rfl):p:=h
theorem aAt(h:p:=by simp only[aH ae,aCR];rfl):p:=h
theorem aBo(h:p:=by simp only[aH ae]):p:=h
theorem aCe(h:p:=by simp only[aH ae,aCE,aCy]at t2;omega):p:=h
theorem aAK(h:p:=by simp only[aH ae];rfl):p:=h
theorem aAp(h:p:=by rw[ck]):p:=h
theorem aBp(h:p:=by rw[jX];exact(mE ae (by simp) (by grind)).trans (Int.zero_add _)):p:=h
theorem aAD(h:p:=by simp only[aH ae,aDB,aCA,aCy]at jz;omega):p:=h
def aDF:=@List.map_map
def aEE:=@List.length_filter_le
def aE1:=@List.filter_append
theorem aCf(h:p:=by first|omega|(simp only[aH ae,aCF,aCU,aDm];omega)):p:=h
def aFf:=@List.take_set_of_le
def aGg:=@List.drop_set_of_lt
theorem aCg(h:p:=by obtain⟨s,_,rfl⟩:=aCY.1 hv;simp):p:=h
def aDG:=@Nat.ble_eq_true_of_le
theorem aAc(h:p:=by subst ae;rfl):p:=h
def aFV:=@List.getElem_cons_succ
def aGh:=@List.getElem_cons_zero
theorem aBd(h:p:=by rw[oJ ae];rfl):p:=h
theorem aBq(h:p:=by rw[(eS ae).2.1];simp_all):p:=h
theorem aAZ(h:p:=by rw[(eS ae).2.1];rfl):p:=h
theorem aCh(h:p:=by simp only[aH ae,aCx,aCA,aCy];omega):p:=h
def aGi:=@Int.add_zero
theorem aA0(h:p:=by rw[eI];simp only[aH ae,aCx,aCA,aCy];omega):p:=h
theorem aBP(h:p:=by rw[mE ae (by simp only[aCy];omega) (by simp only[aCy];omega)];exact aGi _):p:=h
theorem aBQ(h:p:=by simp only[aH ae,aDk,aDQ];omega):p:=h
theorem aBR(h:p:=by rw[eI];simp only[aH ae,aDk,aDQ,aCy,Int.toNat_natCast];omega):p:=h
theorem aCi(h:p:=by simp only[aH ae,decide_true,aEs,aCx,aCA,aCy];omega):p:=h
theorem aA1(h:p:=by grind[pD]):p:=h
theorem aBr(h:p:=by show h+1<=j;omega):p:=h
theorem aBs(h:p:=by show j-(h+1)<j-i;omega):p:=h
theorem aBt(h:p:=by show i<=h;omega):p:=h
theorem aBu(h:p:=by show h-i<j-i;omega):p:=h
def aFW:=@List.drop_zero
def aE2:=@List.length_eq_zero_iff
theorem aCj(h:p:=by subst ae;exact aDG (by omega)):p:=h
def aFX:=@List.map_replicate
def aEF:=@List.length_replicate
def aEG:=@Int.ofNat.inj
theorem aBS(h:p:=by rw[aDE];exact aE):p:=h
theorem aBT(h:p:=by rw[ae,bK,aCR];rfl):p:=h
def aFg:=@List.getElem_map
def aGj:=@List.mem_flatten
theorem aBv(h:p:=by grind[yZ]):p:=h
theorem aBe(h:p:=by grind[Bs]):p:=h
def aFh:=@List.map_set
def aGk:=@List.getElem_set_self
def aGn:=@List.set_getElem_self
theorem aA2(h:p:=by rw[aCv];omega):p:=h
theorem aBU(h:p:=by rw[<-qM];try kernel_rfl):p:=h
theorem aCk(h:p:=by rw[aGn,<-eI];try kernel_rfl):p:=h
theorem aBV(h:p:=by rw[yZ];exact hi):p:=h
theorem aBW(h:p:=by subst ae;subst af;cases h):p:=h
def aEH:=@List.filter_cons_of_pos
def aE3:=@List.filter_cons_of_neg
theorem aCl(h:p:=by unfold gp;rw[aCx];exact⟨aCI (aEf _),aCI (aDN.2 h)⟩):p:=h
def aFi:=@of_decide_eq_false
theorem aCm(h:p:=by have:(l::ls).length=ls.length+1:=rfl;omega):p:=h
theorem aCn(h:p:=by have:(y::ys).length=ys.length+1:=rfl;omega):p:=h
theorem aCo(h:p:=by rw[aC4,aDb e,<-aC4];exact av):p:=h
theorem aCp(h:p:=by rw[aDf (by rw[b4.len];exact di)]):p:=h
theorem aCq(h:p:=by show lI n (i*33554432+0) M;rw[aDc];exact ck):p:=h
def aGl:=@List.Pairwise.map
theorem aBw(h:p:=by rw[aDF];rfl):p:=h
theorem aCr(h:p:=by subst ae;rw[gM];exact(aCv _).trans iC):p:=h
theorem aCs(h:p:=by rw[gM];exact cY (by rw[iC];exact h)):p:=h
theorem aBX(h:p:=by rw[mQ];exact r1 ae rG (by decide)):p:=h
def aGm:=@List.flatten_append
theorem aBx(h:p:=by show q-(i+1)<q-i;omega):p:=h
theorem aBY(h:p:=by subst ae;show(!decide (e=0))=true;rw[aC3 he];rfl):p:=h
theorem aAL(h:p:=by subst ae;exact bx.trans hZ.symm):p:=h
theorem aA3(h:p:=by simp only[aCy]at*;omega):p:=h
theorem aBy(h:p:=by rw[aCv];exact hi):p:=h
theorem aBZ(h:p:=by rw[aC4,aCB h];rfl):p:=h
def aE4:=@List.mem_singleton_self
theorem aCt(h:p:=by unfold iota;exact aEV (aDw.2 (by have:=h.bf;omega))):p:=h
def jZ(q p:Prop):Prop:=q->p
theorem jZ.rfl{p:Prop}:jZ p p:=id
theorem G6{q p:Prop}(h:jZ q p:=by(conv=>arg 2;cbv);first|(show jZ _ (Exists _);exact ane)|(show jZ _ (And _ _);exact anf)|((first|simp -proj only[‹_=true›]|simp -proj only[‹_=false›]|simp -proj only[‹_=some _›]|simp -proj only[‹_=none›]|simp -proj only[t2]|simp -proj only[t1]|simp -proj only[bp]|simp -proj only[a2]|simp -proj only[a3]|simp -proj only[bq]|simp -proj only[aT]|simp -proj only[b3]|simp -proj only[t3]|simp -proj only[c1]|simp -proj only[c2]|simp -proj only[c3]|simp -proj only[t5]|simp -proj only[d1]|simp -proj only[d2]|simp -proj only[d3]|simp -proj only[cI]|simp -proj only[t4]|simp -proj only[g1]|simp -proj only[t6]|simp -proj only[t0]|simp -proj only[jn]|simp -proj only[fw]|simp -proj only[g2]|simp -proj only[b7]|simp -proj only[d']|simp -proj only[bP]|simp -proj only[bZ]|simp -proj only[cx]|simp -proj only[g3]|simp -proj only[eG]|simp -proj only[w1]|simp -proj only[b5]|simp -proj only[cb]|simp -proj only[f1]|simp -proj only[t7]|simp -proj only[eY]|simp -proj only[cp]|simp -proj only[r0]|simp -proj only[fa]|simp -proj only[cy]|simp -proj only[t8]|simp -proj only[l4]|simp -proj only[f2]|simp -proj only[fG]|simp -proj only[cq]|simp -proj only[jz]|simp -proj only[jL]|simp -proj only[lb]|simp -proj only[f0]|simp -proj only[q1]|simp -proj only[g']|simp -proj only[dG]|simp -proj only[v1]|simp -proj only[jj]|simp -proj only[h1]|simp -proj only[v2]|simp -proj only[v3]|simp -proj only[v4]|simp -proj only[hD]|simp -proj only[af]|simp -proj only[u8]|simp -proj only[jw]|simp -proj only[av]|simp -proj only[nS]|simp -proj only[ni]|simp -proj only[hl]|simp -proj only[z2]|simp -proj only[z3]|simp -proj only[f3]|simp -proj only[kG]|simp -proj only[bG]|simp -proj only[uY]|simp -proj only[pv]|simp -proj only[tg]|simp -proj only[lC]|simp -proj only[v5]|simp -proj only[cM]|simp -proj only[KP]|simp -proj only[g0]|simp -proj only[fH]|simp -proj only[dB]|simp -proj only[gE]|simp -proj only[ang]|simp -proj only[mu]|simp -proj only[m1]|simp -proj only[m2]|simp -proj only[uy]|simp -proj only[L2]|simp -proj only[aj]|simp -proj only[aC]|simp -proj only[aX]|simp -proj only[g4]|simp -proj only[ow]|simp -proj only[ri]|simp -proj only[pc]|simp -proj only[rv]|simp -proj only[Aa]|simp -proj only[qu]|simp -proj only[uB]);exact G6)|exact jZ.rfl):jZ q p:=h
theorem ane{q:Prop}{f:Nat}{a:List ah}{s:aY}{r:ah}{t:aY}{K:ah->aY->Prop}(h:bD P gl f a s r t:=by assumption)(k:jZ q (K r t):=by exact G6):jZ q (∃r c,bD P gl f a s r c/\K r c):=λx=>⟨r,t,h,k x⟩
theorem anf{q a b:Prop}(h:a:=by first|assumption|(simp only[aH ae,aCx,aCA,aCv,aCU,aDm,aCF,aE',true_and,aCy];omega))(k:jZ q b:=by exact G6):jZ q (a/\b):=λx=>⟨h,k x⟩
theorem ak{p q:Prop}(k:q)(h:jZ q p:=by exact G6):p:=h k
theorem G7{q p:Prop}(h:jZ q p:=by(conv=>arg 2;whnf);first|(show jZ _ (_=true/\_);exact anh)|(show jZ _ (cond _ _ _);exact ani)|exact jZ.rfl):jZ q p:=h
theorem anh{q a:Prop}{b:Bool}(h:b=true:=by kernel_rfl)(k:jZ q a:=by exact G7):jZ q (b=true/\a):=λx=>⟨h,k x⟩
theorem ani{q A B:Prop}{b c:Bool}(h:b=c:=by first|assumption|exact T6 aAk)(k:jZ q (cond c A B):=by exact G7):jZ q (cond b A B):=λx=>h▸k x
theorem db{p q:Prop}(k:q)(h:jZ q p:=by exact G7):p:=h k
theorem c6{P:Program}{gl:Nat->List D}{f:Nat}{c a:List ah}{s s':aY}{r:ah}{t:aY}{K:ah->aY->Prop}{q:Prop}(h:bD P gl f c s r t)(k:q)(h1:a=c:=by kernel_rfl)(d:s'=s:=by kernel_rfl)(g:jZ q (K r t):=by exact G7):∃r s2,bD P gl f a s' r s2/\K r s2:=by
 subst h1;subst d;exact⟨r,t,h,g k⟩
theorem hb{c:Type}{R:c->ah}{S:c->aY}{f:Nat}{a:List ah}{s:aY}(h:∃r s',(∃x,r=R x/\s'=S x)/\bD P gl f a s r s'):∃x,bD P gl f a s (R x) (S x):=by
 obtain⟨_,_,⟨x,rfl,rfl⟩,h⟩:=h;exact⟨x,h⟩
theorem eW{a:Type}{Q:a->Prop}{R:a->ah}{S:a->aY}{f:Nat}{c:List ah}{s:aY}(h:∃r s',(∃x,Q x/\r=R x/\s'=S x)/\bD P gl f c s r s'):∃x,Q x/\bD P gl f c s (R x) (S x):=by
 obtain⟨_,_,⟨x,h1,rfl,rfl⟩,h⟩:=h;exact⟨x,h1,h⟩
theorem wC{c d:Type}{R:c->d->ah}{S:c->d->aY}{f:Nat}{a:List ah}{s:aY}(h:∃r s',(∃x y,r=R x y/\s'=S x y)/\bD P gl f a s r s'):∃x y,bD P gl f a s (R x y) (S x y):=by
 obtain⟨_,_,⟨x,y,rfl,rfl⟩,h⟩:=h;exact⟨x,y,h⟩
theorem Dp{a c:Type}{Q:a->c->Prop}{R:a->c->ah}{S:a->c->aY}{f:Nat}{d:List ah}{s:aY}(h:∃r s',(∃x y,Q x y/\r=R x y/\s'=S x y)/\bD P gl f d s r s'):∃x y,Q x y/\bD P gl f d s (R x y) (S x y):=by
 obtain⟨_,_,⟨x,y,h1,rfl,rfl⟩,h⟩:=h;exact⟨x,y,h1,h⟩
theorem G8{c d a:Type}{Q:c->d->a->Prop}{R:c->d->a->ah}{S:c->d->a->aY}{f:Nat}{g:List ah}{s:aY}(h:∃r s',(∃x y z,Q x y z/\r=R x y z/\s'=S x y z)/\bD P gl f g s r s'):∃x y z,Q x y z/\bD P gl f g s (R x y z) (S x y z):=by
 obtain⟨_,_,⟨x,y,z,h1,rfl,rfl⟩,h⟩:=h;exact⟨x,y,z,h1,h⟩
theorem fixF{a:Type}{S:a->ag}{J:a->Prop}{μ:a->Nat}{n:Nat}{st:ag}(b:a)(au:J b)(c:st=S b:=by kernel_rfl)(d:μ b<n:=by first|omega|(dsimp only;omega)):∃m,m<n/\bX S J μ m st:=⟨_,d,b,au,rfl,c⟩
end
end Go.aG
