/- Part of many_said. -/
import Derived.Test.YtdfonihgkhbpcaaGreatDoorM5
import Derived.Deep.DeepLaidRun
import Derived.SevenTiedAt
import Derived.Lib.AppendIntMem
import Derived.Lib.AppendZerosOnto
set_option linter.defProp false
set_option maxRecDepth 100000
set_option maxHeartbeats 8000000
set_option linter.unusedSimpArgs false
set_option linter.unusedVariables false
namespace Go.aG
variable {p:Prop}
def aDM:=@Option.some.inj
def C9(x:Lit×DataW Unit):Option (List UInt8×D):=match x with
 |(.string b,.lit (.int k z))=>some (b,.int k z)
 |_=>none
def yj:List (List UInt8)->Bool
 |[]=>true
 |a::l=>!l.contains a&&yj l
def C'(P:Program):Nat->Nat->DataW Unit->Option (List D)
 |0,_,_=>none
 |n+1,t,d=>match P.underlying t,d with
  |some (.int _),.lit (.int k z)=>some [.int k z]
  |some .string,.lit (.string b)=>some [.str b]
  |some (.array m e),.agg a=>cond (Nat.beq (P.cellsOf t) (m*P.cellsOf e)) ((a.mapM (C' P n e)).bind λl=>cond (l.all λx=>Nat.beq x.length (P.cellsOf e)) (some l.flatten) none) none
  |some (.interface _),.iface _ _=>some [.ix]
  |some (.map k e),.map es=>match P.underlying k,P.underlying e with
   |some .string,some (.int _)=>(es.mapM C9).bind λl=>cond (yj (l.map (·.1))) (some [.lM (l.map λx=>.str x.1) (l.map (·.2))]) none
   |_,_=>none
  |_,_=>none
abbrev Da(l:List (List UInt8×D)):List (D×ah):=zD (l.map λx=>.str x.1) (l.map (·.2))
theorem TW(x:List UInt8×D)(l:List (List UInt8×D)):Da (x::l)=(.str x.1,.d x.2)::Da l:=rfl
theorem amp(b:Bool)(c:List Nat)(k:D):(∀s,cond (fc b (.str s)) (cG c k.cells [.str s]) none=none)\/∃d,∀s,fc b (.str s)=true/\cG c k.cells [.str s]=some (decide (d=s)):=by
 cases b with
 |true=>exact .inl λs=>rfl
 |false=>
  match c,k.cells with
  |[],[]=>exact .inl λs=>rfl
  |[],_::_=>exact .inl λs=>rfl
  |_::_,[]=>grind[cG]
  |[2],[.str p]=>exact .inr ⟨p,λs=>⟨rfl,by simp[cG]⟩⟩
  |[2],.str p::a::l=>grind[cG]
  |2::a::l,.str p::m=>grind[cG]
  |0::l,a::m=>grind[cG]
  |1::l,a::m=>grind[cG]
  |(n+3)::l,a::m=>simp_all[cG]
  |2::l,.bool _::m|2::l,.int _ _::m|2::l,.list _ _::m|2::l,.agg _::m|2::l,.dJ::m|2::l,.h9::m|2::l,.lL::m|2::l,.iK::m|2::l,.fn _::m|2::l,.e2 _ _::m|2::l,.iface _ _::m
  |2::l,.lM _ _::m|2::l,.ix::m=>grind[cG]
theorem amq{a:Bool}{b:List Nat}{k:D}(h:∀s,cond (fc a (.str s)) (cG b k.cells [.str s]) none=none)(x:List UInt8×D)(l:List (List UInt8×D))(i:Nat):e4 a b k (Da (x::l)) i=none:=by
 rw[TW];have:=h x.1;simp[e4];cases au:fc a (.str x.1)with
 |false=>rfl
 |true=>
  rw[au]at this;have c:(D.str x.1).cells=[.str x.1]:=rfl;simp_all
theorem Lx{b:Bool}{c:List Nat}{k:D}{a:List UInt8}(h:∀s,fc b (.str s)=true/\cG c k.cells [.str s]=some (decide (a=s))):∀(l:List (List UInt8×D)) (i:Nat),
  (e4 b c k (Da l) i=some none/\∀x,x∈l->x.1≠a)\/∃j x,e4 b c k (Da l) i=some (some (i+j))/\l[j]?=some x/\x.1=a
 |[],i=>.inl ⟨rfl,az7⟩
 |x::l,i=>by
  rw[TW];obtain⟨n,e⟩:=h x.1;have m:(D.str x.1).cells=[.str x.1]:=rfl;simp only[e4,n,aC0,m,e];by_cases f:a=x.1
  .simp only[f,decide_true];exact .inr ⟨0,x,rfl,rfl,rfl⟩
  .rcases Lx h l (i+1)with⟨g,d⟩|⟨j,y,g,d,aX⟩
   .grind
   .exact .inr ⟨j+1,y,az9,az8,aX⟩
theorem TX:∀{l:List (List UInt8×D)},yj (l.map (·.1))=true->∀{x y:List UInt8×D},x∈l->y∈l->x.1=y.1->x=y
 |[],_,x,y,ai,_,_=>az8
 |a::l,h,x,y,ai,b,e=>by
  simp[aDe,yj,aCx,aCX]at h;have d:∀z,z∈l->z.1≠a.1:=λz c f=>az9;rcases aCJ.1 ai with ai|ai<;>rcases aCJ.1 b with b|b
  .simp_all
  .simp_all
  .simp_all
  .exact TX h.2 ai b e
theorem ams{l m:List (List UInt8×D)}(c:∀x,x∈m↔x∈l)(i:yj (l.map (·.1))=true):IX (m.map λx=>.str x.1) (m.map (·.2)) (l.map λx=>.str x.1) (l.map (·.2)):=by
 intro n s k;rcases amp n s k with h|⟨z,h⟩
 .cases l with
  |nil=>
   have:m=[]:=List.eq_nil_iff_forall_not_mem.2 λx u=>az8;simp_all
  |cons x l=>
   grind[amq]
 .have f:=Lx h l 0;have r:=Lx h m 0;refine⟨λv=> ?_,λj d g p=> ?_⟩
  .grind
  .rcases f with⟨a,_⟩|⟨A,x,a,b,aX⟩
   .simp_all
   .rw[g]at a;simp at a;subst a;rw[aDC,b]at p;have t:=(c x).2 (aC8 b);rcases r with⟨_,o⟩|⟨e,y,o,q,w⟩
    .simp_all
    .refine⟨e,az8,?_⟩;have:=TX i ((c y).1 (aC8 q)) (aC8 b) az8;simp_all
theorem TY{H:Type}(x:Lit×DataW H):∀(l:List (Lit×DataW H)) (y:Lit×DataW H),y∈DataW.insert x l↔y=x\/y∈l
 |[],y=>by simp[DataW.insert]
 |z::l,y=>by
  simp[DataW.insert];split
  .simp
  .simp[aCJ,TY x l y];constructor
   .rintro(h|h|h)<;>simp[h]
   .rintro(h|h|h)<;>simp[h]
theorem Lz{H:Type}:∀(l:List (Lit×DataW H)) (y:Lit×DataW H),y∈l.foldr DataW.insert []↔y∈l
 |[],y=>az7
 |x::l,y=>by rw[List.foldr_cons,TY,Lz l y];simp
def yk(x:Lit×DataW Unit):List UInt8×D:=match x with
 |(.string b,.lit (.int k z))=>(b,.int k z)
 |_=>([],.dJ)
theorem amt{x:Lit×DataW Unit}{y:List UInt8×D}(h:C9 x=some y):yk x=y:=by
 unfold C9 at h;grind[yk]
theorem T0:∀{l:List (Lit×DataW Unit)} {r:List (List UInt8×D)},l.mapM C9=some r->l.map yk=r
 |[],r,h=>az8
 |x::l,r,h=>by
  simp only[aE8,aDt,aCL,aFs,aCz]at h;obtain⟨b,a,d,c,rfl⟩:=h;rw[aDe,amt a,T0 c]
section
variable {P:Program}{W:World}
theorem amu{k:Nat}{v:Value}{key:Lit}(a:P.underlying k=some .string)(h:keyOf P k v=some key):∃s:ByteArray,v=.string s/\key=.string s.data.toList:=by
 unfold keyOf at h;cases v<;>simp[mapKey,a]at h;simp_all
theorem amv{e:Nat}{v:Value}{a k:IntKind}{n:Int}(d:P.underlying e=some (.int a))(c:v.formed P e=true)(b:v.cells.toList=[.int k n]):v=.int k n:=by
 cases v<;>simp_all[Value.formed,Value.cells]
theorem amw{k e b C:Nat}{G:IntKind}{enc:TypeId×Value->Unit}{K:Nat->Bool}{es:List (Lit×DataW Unit)}{ps:List MemPlace}{l:List (List UInt8×D)}(H:P.underlying k=some .string)(R:P.underlying e=some (.int G)){E:Array MapEntry}{p:Nat}
  (B:W.heap[b]?=some (.map E p))
  (F:((E.toList.mapM λx=>(keyOf P k x.key).bind λkey=>if x.val.formed P e then(DataW.trod enc P W 0 K false C e x.val.cells.toList).map λy=>((key,y.1),y.2)else none).bind λc=>
   let sorted:=(c.map (·.1)).foldr DataW.insert [];if DataW.rising sorted then some (DataW.map sorted,MemPlace.map b::c.flatMap (·.2))else none)=some (.map es,ps))
  (u:es.mapM C9=some l) (A:yj (l.map (·.1))=true):Rd W G0 (.map (some b)) (.lM (l.map λx=>.str x.1) (l.map (·.2))):=by
 obtain⟨c,r,h⟩:=aCL.1 F;simp only at h;split at h
 .simp at h;have N:=Lib.mapM_length r;have key:∀(j:Nat) (x:MapEntry),E.toList[j]?=some x->∃(s:ByteArray) (q:IntKind) (n:Int),x.key=.string s/\x.val=.int q n/\((c.map (·.1)).map yk)[j]?=some (s.data.toList,.int q n):=by
   intro j x a;obtain⟨y,M,t⟩:=Lib.mapM_at r j x a;obtain⟨L,w,i⟩:=aCL.1 t;obtain⟨s,Cj,rfl⟩:=amu H w;split at i
   .rename_i Q;obtain⟨z,S,rfl⟩:=aDr.1 i;grind[DataW.trod_int,amv,yk]
   simp_all
  have J:IX (((c.map (·.1)).map yk).map λx=>.str x.1) (((c.map (·.1)).map yk).map (·.2)) (l.map λx=>.str x.1) (l.map (·.2)):=by
   refine ams (λx=> ?_) A;rw[<-T0 u,<-h.1];simp only[aCY];constructor
   .rintro⟨y,⟨z,d,rfl⟩,rfl⟩;exact⟨z.1,(Lz _ _).2 (List.mem_map_of_mem d),rfl⟩
   .rintro⟨y,f,rfl⟩;have:=(Lz _ _).1 f;grind
  refine .lM b (E.toList.map (·.key)) (E.toList.map (·.val)) _ _ _ _ ⟨E,p,⟨rfl,rfl,B⟩,rfl,rfl⟩ (.mk az8 λj v x g a=> ?_) (.mk az8 λj v x g a=> ?_) J
  .rw[aDC,aDr]at g a;obtain⟨y,f,rfl⟩:=g;obtain⟨z,d,rfl⟩:=a;obtain⟨s,q,n,o,m,aX⟩:=key j y f;rw[d]at aX;obtain rfl:=aDM aX;rw[o];exact .str _ _ rfl
  .rw[aDC,aDr]at g a;obtain⟨y,f,rfl⟩:=g;obtain⟨z,d,rfl⟩:=a;obtain⟨s,q,n,o,m,aX⟩:=key j y f;rw[d]at aX;obtain rfl:=aDM aX;rw[m];exact .int _ _
 simp_all
theorem T2(sz:Nat):∀(l:List (List D)) (cs:List Value),cs.length=l.length*sz->(∀x,x∈l->x.length=sz)->(∀(i:Nat) x,l[i]?=some x->cw W G0 ((cs.drop (i*sz)).take sz) x/\∀v,v∈(cs.drop (i*sz)).take sz->v.oneCell'=true)->cw W G0 cs l.flatten/\∀v,v∈cs->v.oneCell'=true
 |[],cs,h,_,_=>by
  have:cs=[]:=az8;subst this;exact⟨.nil,az7⟩
 |x::l,cs,h,ai,a=>by
  have b:=a 0 x rfl;simp at b;have c:(cs.drop sz).length=l.length*sz:=by
   grind[Nat.add_mul]
  have f:=T2 sz l (cs.drop sz) c (λy d=>ai y az9) (λi y d=>by
   have:=a (i+1) y az8;simp_all[aDx,Nat.add_comm])
  have e:=(List.take_append_drop sz cs).symm;refine⟨?_,λv g=> ?_⟩
  .rw[e];exact b.1.append f.1
  grind
theorem amy{enc:TypeId×Value->Unit}{A:Nat->Bool}:∀(n h t:Nat) (cs:List Value) (d:DataW Unit) (ps:List MemPlace) (o:List D),
  DataW.trod enc P W 0 A false h t cs=some (d,ps)->C' P n t d=some o->cw W G0 cs o/\∀v,v∈cs->v.oneCell'=true:=by
 intro n;induction n with
 |zero=>simp_all[C']
 |succ n ih=>
  intro h t cs d ps o c a;cases h with
  |zero=>simp_all[DataW.trod]
  |succ h=>
   simp[C']at a;split at a
   .rename_i J k z hu;obtain⟨m,rfl,g,_⟩:=DataW.trod_int hu c;obtain⟨⟨rfl,rfl⟩,_⟩:=g;simp at a;subst a;exact⟨.cons _ _ _ _ (.int _ _) .nil,aAs⟩
   .rename_i b hu;obtain⟨m,rfl,g,_⟩:=DataW.trod_string hu c;obtain⟨rfl,_⟩:=g;simp at a;subst a;exact⟨.cons _ _ _ _ (.str _ _ rfl) .nil,aAs⟩
   .rename_i m e pl hu;cases f:Nat.beq (P.cellsOf t) (m*P.cellsOf e)with
    |false=>simp_all
    |true=>
     rw[f]at a;have f:=aCG f;simp[aC0,aCL]at a;obtain⟨l,j,a⟩:=a;cases r:(l.all λx=>Nat.beq x.length (P.cellsOf e))with
     |false=>simp_all
     |true=>
      rw[r]at a;simp at a;subst a;simp only[DataW.trod,hu]at c;split at c
      .rename_i N;obtain⟨B,s,p⟩:=aDr.1 c;have M:B.map (·.1)=pl:=az8;have S:=by simpa using Lib.mapM_length s
       have R:l.length=m:=by grind[Lib.mapM_length]
       refine T2 (P.cellsOf e) l cs az8 (λx p=>aCG (aCQ.1 r x p)) (λi x K=> ?_);have Q:i<m:=az9;obtain⟨b,L,H⟩:=Lib.mapM_at s i i az8;have u:pl[i]?=some b.1:=az9;obtain⟨y,G,F⟩:=Lib.mapM_at j i b.1 u;grind
      simp_all
   .rename_i ms nm y hu;simp at a;subst a;unfold DataW.trod at c;split at c<;>simp_all;exact⟨.cons _ _ _ _ (.ix _ _) .nil,aAs⟩
   .rename_i k e es hu;split at a
    .rename_i w g;simp[aCL]at a;obtain⟨l,j,a⟩:=a;cases q:yj (l.map (·.1))with
     |false=>simp_all
     |true=>
      rw[q]at a;simp at a;subst a;unfold DataW.trod at c;rw[hu]at c;split at c;all_goals first
       |(rename_i hh;simp at hh;done)
       |(rename_i hh _;done)
       |(simp at c)
       |skip
      rename_i C;obtain⟨rfl,rfl⟩:=C;split at c
      .rename_i E clock f;split at c
       .exact⟨.cons _ _ _ _ (amw w g f c j q) .nil,aAs⟩
       simp_all
      simp_all
    simp_all
   simp_all
theorem T3{W:World}:∀{l:List (String×DataW Unit)} {ps:List MemPlace},DataW.LaidVars P W l ps->∀{a:String} {d:DataW Unit},(a,d)∈l->
  ∃g t cs b p,P.globalNamed a=some g/\(P.globals[g]?).map (·.type)=some t/\W.var? P a=some cs/\DataW.trod (λ_=>()) P W 0 (λ_=>true) false b t cs.toList=some (d,p)
 |[],_,_,_,_,h=>az9
 |(n,d0)::r,ps,aE,a,d,h=>by
  obtain⟨g,t,cs,b,p,q,f,e,aX,i,c,_⟩:=aE;rcases aCJ.1 h with h|h
  .grind
  .exact T3 c h
theorem wu{W:World}{l:List (String×DataW Unit)}{ps:List MemPlace}(h:DataW.LaidVars P W l ps){k:String}{d:DataW Unit}(u:(k,d)∈l){g t n:Nat}{b:List D}(e:P.globalNamed k=some g)(q:(P.globals[g]?).map (·.type)=some t)(o:C' P n t d=some b):
  ∃vs,jc W G0 g 0 vs/\cw W G0 vs b/\(b.length=0\/∃c E fz,zC W G0 g (.cells c E fz)/\c.size=b.length):=by
 obtain⟨A,z,f,w,p,r,m,aX,s⟩:=T3 h u;obtain rfl:=aDM (e.symm.trans r);obtain rfl:=aDM (q.symm.trans m);obtain⟨i,cq⟩:=amy n w t f.toList d p b s o;refine⟨f.toList,λj v x=> ?_,i,.inr ?_⟩;rotate_left
 .have a:=aX;unfold World.var? at a;rw[e]at a;simp at a;split at a
  .rename_i c E fz au;refine⟨c,E,fz,⟨rfl,rfl,au⟩,?_⟩;have:=aDM a;subst this;have:=i.length;omega
  simp_all
 have y:j<f.size:=az9;refine⟨?_,λL n h=>by grind[G0],cq v (List.mem_of_getElem? x)⟩;have:=World.var?_cell e aX j;simp_all
end
mutual
def ql:DataW Unit->List Value
 |.lit (.int k n)=>[.int k n]
 |.lit (.string b)=>[.string ⟨b.toArray⟩]
 |.agg a=>T4 a
 |_=>[]
def T4:List (DataW Unit)->List Value
 |[]=>[]
 |d::l=>ql d++T4 l
end
def amA:DataW Unit->Array MapEntry
 |.map es=>(es.zipIdx.map λx=>⟨(ql (.lit x.1.1)).headD .nilIface,(ql x.1.2).headD .nilIface,x.2⟩).toArray
 |_=> #[]
def qm(h:Array Obj)(g:Nat)(vs:List Value):Array Obj:=h.modify g λ
 |.cells _ t f=>.cells vs.toArray t f
 |o=>o
theorem amB(P:Program)(c:OpenClaim)(a:c.start=.entering)(h:∀f,P.goes f=false):false=c.goesBy P:=by
 unfold OpenClaim.goesBy Program.goesAt Program.goesFrom;rw[a];cases P.funcNamed c.func with
 |none=>rfl
 |some f=>grind
theorem amC(P:Program)(T5:(P.funcs.any Func.goes)=false)(f:FuncId):P.goes f=false:=by
 unfold Program.goes;grind
def lt:List (Nat×ah)->Nat->ah
 |[]=>λ_=>.undef
 |(k,v)::l=>cK (lt l) k v
def fV:List (Nat×List ah)->Nat->Option (List ah)
 |[]=>λ_=>none
 |(k,v)::l=>cK (fV l) k (some v)
def cA(l:List (Nat×ah))(s:aY):ag:=⟨lt l,λ_=>none,s⟩
def lZ(l:List (Nat×ah))(b:List (Nat×List ah))(s:aY):ag:=⟨lt l,fV b,s⟩
theorem ax5{P:Program}{gl:Nat->List D}{d:Type}{f:Nat}{b:aW}{a:List ah}(c:d->ah)(p:d->Prop)(h:a6 P f b)(e:mf (fR P gl) gl b a [] λr s'=>(∃x,p x/\r=c x)/\s'=[]):∃x,p x/\bD P gl f a [] (c x) []:=by
 grind[a6.ext]
theorem ax6{b:Bool}{A B:Prop}(h:b=true)(a:A):cond b A B:=az8
theorem ax7{b:Bool}{A B:Prop}(h:b=false)(a:B):cond b A B:=az8
theorem ax8{b:Bool}{A B:Prop}(h:b=false)(a:A):cond (!b) A B:=az8
theorem ax9{b:Bool}{A B:Prop}(h:b=true)(a:B):cond (!b) A B:=az8
theorem uU{b:Bool}{A B:Prop}(c:b=true->B)(a:b=false->A):cond (cond false b (!b)) A B:=az8
theorem ax'{b:Bool}{A B:Prop}(c:b=true->A)(a:b=false->B):cond (cond true b (!b)) A B:=az8
theorem aya{b:Bool}{q:Prop}(h:b=true)(a:q):b=true/\q:=⟨h,a⟩
theorem ta{b:Bool}{A B:Prop}(c:b=true->A)(a:b=false->B):cond b A B:=az8
theorem ayb{b:Bool}{A B:Prop}(c:b=false->A)(a:b=true->B):cond (!b) A B:=az8
theorem T6{b c:Bool}(h:b=c):(!b)=!c:=h▸rfl
theorem qn{b c:Bool}{A B:Prop}(k:cond c A B)(h:b=c:=by first|assumption|exact T6 aAk):cond b A B:=az8
theorem ayc{b:Bool}{q:Prop}(a:q)(h:b=true:=by kernel_rfl):b=true/\q:=⟨h,a⟩
theorem qo{b:Bool}{q:Prop}(a:q)(h:b=true:=by rfl):b=true/\q:=⟨h,a⟩
theorem LA{P:Program}{gl:Nat->List D}{f:Nat}{b a:List ah}{s s':aY}{r:ah}{t:aY}{K:ah->aY->Prop}(h:bD P gl f b s r t)(d:a=b)(c:s'=s)(e:K r t):∃r s2,bD P gl f a s' r s2/\K r s2:=az9
theorem GI{P:Program}{gl:Nat->List D}{d:Nat->List ah->aY->Out}{f:Nat}{g:UInt8->Bool}(e:hP P gl d)
  (h:((List.range 256).all λn=>match d f [.d (.int .u8 n)] []with|some (.d (.bool b),[])=>b==g (UInt8.ofNat n)|_=>false)=true) (c:UInt8):bD P gl f [.d (fO c)] [] (.d (.bool (g c))) []:=by
 have:=aCQ.1 h c.toNat (aDw.2 c.toNat_lt);split at this
 .rename_i b au;have a:b=g (UInt8.ofNat c.toNat):=az8;rw[UInt8.ofNat_toNat]at a;subst a;exact e _ _ _ _ _ au
 simp_all
def aCO:=@Eq.trans
theorem aBK(h:p:=by refine oD _ ?_;rfl):p:=h
structure bd where
 io:BinOp->IntKind->Int->Int->Int
 aB:BinOp->Int->Int->Bool
 wr:IntKind->Int->Int
 len:List D->Nat
 get:List D->Int->D
 app:List D->List D->List D
 sub:List D->Int->Int->List D
 gap:Nat->Nat->Nat->Nat->Nat->Nat->Bool
 GJ:Nat->Nat->Nat->Int->Nat->Nat->Bool->Bool
 dS:Nat->Nat->Int->Nat->Bool
 yl:Int->Nat->Bool
 nn:Int->Int->Nat->Bool
 dK:List UInt8->Nat
 wx:List UInt8->Int->UInt8
 cV:List UInt8->List UInt8->List UInt8
 gN:List UInt8->Int->Int->List UInt8
 bm:BinOp->List UInt8->List UInt8->Bool
 fL:List UInt8->List UInt8->Bool
 gI:List UInt8->List D
 lD:List Nat->List D->List D->Option Bool
 look:Bool->List Nat->D->List D->List D->Option (Option D)
 la:Nat->Int->Nat->Nat
 ha:Nat->Nat->List ah->Bool->Bool
 lE:Bool->Nat->Nat->List ah->Bool->Bool
 AL:Nat->List ah->Bool
 wy:Bool->Nat->Nat->Nat->List ah->Bool
 wz:Int->Int->Bool
 mC:Bool->Int->Int->Int->Nat->Bool
 kM:List ah->Nat->ah
 Df:List ah->Nat->ah
 l0:List ah->Nat->Nat->ah
 kN:List ah->Nat->List ah->Option (List ah)
 Dg:List ah->Nat->Option (List ah)
 qp:List ah->Nat->Nat->List ah->Option (List ah)
 ym:Nat->List ah->Option (List ah)
 ns:Int->Int->Nat
 AN:List fb->List fb->Option (List fb)
 l3:Nat->Nat->Nat
 AO:Nat->Nat->Nat->Nat->Nat->Bool
 yn:List fb->Option (List ah)
 AP:Nat->Nat->Nat->Nat->List ah->Option D
 LB:Bool->Int->List D->Bool
 Dh:Nat->List D->Int->ah
 yo:cc->List Nat
 yp:(Nat->Nat)->cc->cc
 yq:Nat->cc->Bool
 yr:Bool->List Nat->D->List (D×ah)->Option (Option ah)
 yt:Bool->List Nat->D->ah->List (D×ah)->Option (List (D×ah))
def LD{R:Type}(v:ah)(K:ah->R):R:=match v with
 |.d x=>K (.d x)
 |v=>K v
theorem T7{R:Type}(v:ah)(K:ah->R):LD v K=K v:=by cases v<;>rfl
def wA{a R:Type}(A:mT R)(o:Option a)(K:a->R):R:=match o with
 |some x=>K x
 |none=>A.fail
def amD{R:Type}(A:mT R)(b:Bool)(x:Unit->R):R:=match b with
 |true=>x ()
 |false=>A.fail
def T8{R:Type}(l:List Nat)(K:List Nat->R):R:=match l with
 |[]=>K []
 |i::t=>K (i::t)
theorem amE{R:Type}(l:List Nat)(K:List Nat->R):T8 l K=K l:=by cases l<;>rfl
def kO{R:Type}(b:Bool)(x y:Unit->R):R:=match b with
 |true=>x ()
 |false=>y ()
theorem T9{R:Type}(b:Bool)(x y:Unit->R):kO b x y=cond b (x ()) (y ()):=by cases b<;>rfl
theorem oD{a:Type}(b:Bool){x y:Unit->a}(h:x ()=y ()):kO b x y=y ():=by
 cases b
 .rfl
 .exact h
def tc(a:Bool)(b:List Nat)(k:D)(es:List (D×ah)):Option (Option ah):=
 match e4 a b k es 0 with
 |some none=>some none
 |some (some j)=>match es[j]? with
  |some e=>some (some e.2)
  |none=>none
 |none=>none
def rL(a:Bool)(b:List Nat)(k:D)(x:ah)(es:List (D×ah)):Option (List (D×ah)):=
 match e4 a b k es 0 with
 |some j=>some (nI es k x j)
 |none=>none
def Di(c:Bool)(d:List Nat)(k:D)(b a:List D):Option (Option D):=
 match e4 c d k ((b.zip a).map λe=>(e.1,.d e.2)) 0 with
 |some none=>some none
 |some (some j)=>match a[j]? with
  |some v=>some (some v)
  |none=>none
 |none=>none
def bd.bU:bd where
 io op k a b:=match op with
  |.add=>k.wrap (a+b)
  |.sub=>k.wrap (a-b)
  |.mul=>k.wrap (a*b)
  |.quo=>k.wrap (a.tdiv b)
  |.rem=>a.tmod b
  |.and=>k.wrap (BitVec.ofInt k.bits a&&& BitVec.ofInt k.bits b).toNat
  |.or=>k.wrap (BitVec.ofInt k.bits a|||BitVec.ofInt k.bits b).toNat
  |.xor=>k.wrap (BitVec.ofInt k.bits a^^^BitVec.ofInt k.bits b).toNat
  |.andNot=>k.wrap (BitVec.ofInt k.bits a&&& ~~~ BitVec.ofInt k.bits b).toNat
  |.shl=>k.wrap (a*2^(min b.toNat k.bits))
  |.shr=>a.fdiv (2^(min b.toNat k.bits))
  |_=>0
 aB op a b:=match op with
  |.eql=>decide (a=b)
  |.neq=>!decide (a=b)
  |.lss=>decide (a<b)
  |.leq=>decide (a<=b)
  |.gtr=>decide (b<a)
  |_=>decide (b<=a)
 wr:=IntKind.wrap
 len:=List.length
 get l n:=l.getD n.toNat .dJ
 app l m:=l++m
 sub l a b:=(l.drop a.toNat).take (b.toNat-a.toNat)
 gap a b c n m k:=Nat.beq a b&&Nat.beq c b&&Nat.ble (n+m) k
 GJ a b c i n k t:=Nat.beq a b&&Nat.beq c b&&decide (i=n)&&Nat.ble (n+1) k&&t
 dS a b n k:=Nat.beq a b&&decide (0<=n)&&decide (n<k)
 yl n k:=decide (0<=n)&&decide (n<k)
 nn l h n:=decide (0<=l)&&decide (l<=h)&&decide (h<=n)
 dK:=List.length
 wx s n:=s.getD n.toNat 0
 cV a b:=a++b
 gN s a b:=(s.drop a.toNat).take (b.toNat-a.toNat)
 bm op a b:=match op with
  |.eql=>decide (a=b)
  |.neq=>!decide (a=b)
  |.lss=>bytesLess a b
  |.leq=>bytesLess a b||decide (a=b)
  |.gtr=>!(bytesLess a b||decide (a=b))
  |_=>!bytesLess a b
 fL a b:=decide (a.length+b.length<=IJ)
 gI s:=s.map fO
 lD:=cG
 look:=Di
 la o n z:=o+n.toNat*z
 ha o n cs t:=Nat.ble (o+n) cs.length&&t
 lE t o n cs u:=t&&Nat.ble (o+n) cs.length&&u
 AL o cs:=Nat.blt o cs.length
 wy t o n z cs:=t&&Nat.ble (o+n*z) cs.length
 wz n b:=decide (0<=n)&&decide (n<=b)
 mC t l h m c:=t&&decide (0<=l)&&decide (l<=h)&&decide (h<=m)&&decide (m<=c)
 kM cs o:=snap (cs.getD o .undef)
 Df cs o:=cs.getD o .undef
 l0 cs o n:=cX (.agg ((cs.drop o).take n))
 kN cs o l:=some (putCells cs o l)
 Dg cs o:=some (cs.set o .undef)
 qp cs o n z:=some (putCells cs o (List.replicate n z).flatten)
 ym n z:=some (List.replicate n z).flatten
 ns a b:=a.toNat-b.toNat
 AN a b:=some (a++b)
 l3 a b:=a+b
 AO a b n m k:=Nat.beq a b&&Nat.ble (n+m) k
 yn cs:=some (jS cs)
 AP off len cap sz bs:=cond (Nat.ble len cap&&Nat.blt 0 sz&&Nat.ble (off+len*sz) bs.length) (match ja ((bs.drop off).take (len*sz))with
  |some l=>cond (l.all jt) (some (.list sz (chunks sz len l))) none
  |none=>none) none
 LB t n l:=t&&decide (0<=n)&&decide (n<=l.length)&&!l.isEmpty
 Dh sz l n:=iL sz (l.drop n.toNat)
 yo:=cc.refs
 yp:=cc.ren
 yq:=cc.fB
 yr:=tc
 yt:=rL
theorem Dj(a b:Nat):Nat.beq a b=decide (a=b):=by
 grind[Nat.eq_of_beq_eq_true,Nat.ne_of_beq_eq_false]
theorem AQ(n m:Nat):Nat.ble n m=decide (n<=m):=by
 grind[Nat.le_of_ble_eq_true,Nat.ble_eq_true_of_le]
theorem aH{d:bd}(h:d=bd.bU):
  (∀k a b,d.io .add k a b=k.wrap (a+b))/\(∀k a b,d.io .sub k a b=k.wrap (a-b))/\(∀k a b,d.io .mul k a b=k.wrap (a*b))/\(∀k a b,d.io .quo k a b=k.wrap (a.tdiv b))/\(∀k a b,d.io .rem k a b=a.tmod b)/\
  (∀a b,d.aB .eql a b=decide (a=b))/\(∀a b,d.aB .neq a b=!decide (a=b))/\(∀a b,d.aB .lss a b=decide (a<b))/\(∀a b,d.aB .leq a b=decide (a<=b))/\(∀a b,d.aB .gtr a b=decide (b<a))/\(∀a b,d.aB .geq a b=decide (b<=a))/\
  (∀k n,d.wr k n=k.wrap n)/\(∀l,d.len l=l.length)/\(∀l n,d.get l n=l.getD n.toNat .dJ)/\(∀l m,d.app l m=l++m)/\(∀l a b,d.sub l a b=(l.drop a.toNat).take (b.toNat-a.toNat))/\
  (∀a b c n m k,d.gap a b c n m k=(decide (a=b)&&decide (c=b)&&decide (n+m<=k)))/\(∀a b c i n k t,d.GJ a b c i n k t=(decide (a=b)&&decide (c=b)&&decide (i=n)&&decide (n+1<=k)&&t))/\(∀a b n k,d.dS a b n k=(decide (a=b)&&decide (0<=n)&&decide (n<k)))/\(∀n k,d.yl n k=(decide (0<=n)&&decide (n<k)))/\(∀a b n,d.nn a b n=(decide (0<=a)&&decide (a<=b)&&decide (b<=n)))/\
  (∀s,d.dK s=s.length)/\(∀s n,d.wx s n=s.getD n.toNat 0)/\(∀a b,d.cV a b=a++b)/\(∀s a b,d.gN s a b=(s.drop a.toNat).take (b.toNat-a.toNat))/\
  (∀a b,d.bm .eql a b=decide (a=b))/\(∀a b,d.bm .neq a b=!decide (a=b))/\(∀a b,d.fL a b=decide (a.length+b.length<=4611686018427387904))/\(∀s,d.gI s=s.map fO):=by
 subst h;refine⟨λ_ _ _=>rfl,λ_ _ _=>rfl,λ_ _ _=>rfl,λ_ _ _=>rfl,λ_ _ _=>rfl,λ_ _=>rfl,λ_ _=>rfl,λ_ _=>rfl,λ_ _=>rfl,λ_ _=>rfl,λ_ _=>rfl,λ_ _=>rfl,λ_=>rfl,λ_ _=>rfl,λ_ _=>rfl,λ_ _ _=>rfl,λa b c n m k=> ?_,λa b c i n k t=> ?_,λa b n k=> ?_,λ_ _=>rfl,λ_ _ _=>rfl,λ_=>rfl,λ_ _=>rfl,λ_ _=>rfl,λ_ _ _=>rfl,λ_ _=>rfl,λ_ _=>rfl,λ_ _=>rfl,λ_=>rfl⟩
 .rw[<-Dj,<-Dj,<-AQ];rfl
 .rw[<-Dj,<-Dj,<-AQ];rfl
 .rw[<-Dj];rfl
theorem amF(n m:Nat):Nat.blt n m=decide (n<m):=AQ _ _
theorem uV{a:bd}(h:a=bd.bU):
  (∀o n z,a.la o n z=o+n.toNat*z)/\(∀o n cs t,a.ha o n cs t=(decide (o+n<=cs.length)&&t))/\(∀t o n cs u,a.lE t o n cs u=(t&&decide (o+n<=cs.length)&&u))/\(∀o cs,a.AL o cs=decide (o<cs.length))/\
  (∀t o n z cs,a.wy t o n z cs=(t&&decide (o+n*z<=cs.length)))/\(∀n b,a.wz n b=(decide (0<=n)&&decide (n<=b)))/\(∀t l h m c,a.mC t l h m c=(t&&decide (0<=l)&&decide (l<=h)&&decide (h<=m)&&decide (m<=(c:Int)))):=by
 subst h;refine⟨λ_ _ _=>rfl,λo n cs t=> ?_,λt o n cs u=> ?_,λo cs=> ?_,λt o n z cs=> ?_,λ_ _=>rfl,λ_ _ _ _ _=>rfl⟩
 .rw[<-AQ];rfl
 .rw[<-AQ];rfl
 .rw[<-amF];rfl
 .rw[<-AQ];rfl
def Flat(cs:List ah):Prop:=∀v∈cs,(∃x,v=.d x)\/∃z l,v=.own z l
def po(es:List (D×ah)):Prop:=∀e∈es,∃x,e.2=.d x
theorem Flat.refs{a:bd}(h:a=bd.bU){cs:List ah}(b:Flat cs):a.yo (.box cs)=[]:=by
 subst h;show cs.flatMap (aG.refs depth)=[];rw[aF5];intro v c;rcases b v c with⟨x,rfl⟩|⟨z,l,rfl⟩<;>rfl
theorem Flat.ren{a:bd}(h:a=bd.bU){cs:List ah}(b:Flat cs)(f:Nat->Nat):a.yp f (.box cs)=.box cs:=by
 subst h;show cc.box (cs.map (aG.ren f depth))=_;congr 1;refine(aER λv c=> ?_).trans (List.map_id cs);rcases b v c with⟨x,rfl⟩|⟨z,l,rfl⟩<;>rfl
theorem Flat.ok{a:bd}(h:a=bd.bU){cs:List ah}(b:Flat cs)(n:Nat):a.yq n (.box cs)=true:=by
 subst h;refine aCQ.2 λv c=> ?_;rcases b v c with⟨x,rfl⟩|⟨z,l,rfl⟩<;>rfl
theorem po.refs{a:bd}(h:a=bd.bU){es:List (D×ah)}(c:po es):a.yo (.map es)=[]:=by
 subst h;show es.flatMap (λe=>aG.refs depth e.2)=[];rw[aF5];intro v d;obtain⟨x,b⟩:=c v d;rw[b];rfl
theorem po.ren{a:bd}(h:a=bd.bU){es:List (D×ah)}(c:po es)(f:Nat->Nat):a.yp f (.map es)=.map es:=by
 subst h;show cc.map (es.map λe=>(e.1,aG.ren f depth e.2))=_;congr 1;refine(aER λv d=> ?_).trans (List.map_id es);obtain⟨x,b⟩:=c v d;rw[b];show(v.1,ah.d x)=v;grind
theorem po.ok{a:bd}(h:a=bd.bU){es:List (D×ah)}(b:po es)(n:Nat):a.yq n (.map es)=true:=by
 subst h;refine aCQ.2 λv c=> ?_;obtain⟨x,d⟩:=b v c;grind[aG.fB]
section
variable (ad:bd)(ar:List Nat){R:Type}(A:mT R)(gl:Nat->List D)
def T'(op:BinOp)(k:IntKind)(a b:Int):Option (Bool×D):=
 match op with
 |.add=>some (true,.int k (ad.io .add k a b))
 |.sub=>some (true,.int k (ad.io .sub k a b))
 |.mul=>some (true,.int k (ad.io .mul k a b))
 |.quo=>some (decide (b≠0),.int k (ad.io .quo k a b))
 |.rem=>some (decide (b≠0),.int k (ad.io .rem k a b))
 |.and=>some (true,.int k (ad.io .and k a b))
 |.or=>some (true,.int k (ad.io .or k a b))
 |.xor=>some (true,.int k (ad.io .xor k a b))
 |.andNot=>some (true,.int k (ad.io .andNot k a b))
 |.eql=>some (true,.bool (ad.aB .eql a b))
 |.neq=>some (true,.bool (ad.aB .neq a b))
 |.lss=>some (true,.bool (ad.aB .lss a b))
 |.leq=>some (true,.bool (ad.aB .leq a b))
 |.gtr=>some (true,.bool (ad.aB .gtr a b))
 |.geq=>some (true,.bool (ad.aB .geq a b))
 |_=>none
def Ua(op:BinOp)(k:IntKind)(a b:Int):Option D:=
 match op with
 |.shl=>some (.int k (ad.io .shl k a b))
 |.shr=>some (.int k (ad.io .shr k a b))
 |_=>none
def Ub(op:BinOp)(a b:List UInt8):Option (Bool×D):=
 match op with
 |.add=>some (ad.fL a b,.str (ad.cV a b))
 |.eql=>some (true,.bool (ad.bm .eql a b))
 |.neq=>some (true,.bool (ad.bm .neq a b))
 |.lss=>some (true,.bool (ad.bm .lss a b))
 |.leq=>some (true,.bool (ad.bm .leq a b))
 |.gtr=>some (true,.bool (ad.bm .gtr a b))
 |.geq=>some (true,.bool (ad.bm .geq a b))
 |_=>none
def amG(o:Option Bool)(K:Bool->R):R:=match o with
 |some r=>K r
 |none=>A.fail
def LF(i:Nat)(o:cc):List Nat:=kO (du i ar) (λ_=>ad.yo o) (λ_=>o.refs)
def LG(f:Nat->Nat)(i:Nat)(o:cc):cc:=kO (du i ar) (λ_=>ad.yp f o) (λ_=>o.ren f)
def Uc(n i:Nat)(o:cc):Bool:=kO (du i ar) (λ_=>ad.yq n o) (λ_=>o.fB n)
def AR(s:aY):Nat->List Nat->List Nat->List Nat
 |0,_,acc=>acc
 |_+1,[],acc=>acc
 |n+1,i::todo,acc=>kO (du i acc) (λ_=>AR s n todo acc) (λ_=>AR s n (todo++LF ad ar i (s.getD i .dead)) (acc++[i]))
def LH(s:aY)(a:List Nat)(args:List ah):Bool:=
 (args.flatMap (refs depth)).all (λi=>du i a)&&a.all λi=>(LF ad ar i (s.getD i .dead)).all λj=>du j a
def GK(f:Nat->Nat):Nat->List cc->List cc
 |_,[]=>[]
 |p,o::l=>LG ad ar f (f p) o::GK f (p+1) l
def Dk(n:Nat):Nat->List cc->Bool
 |_,[]=>true
 |p,o::l=>Uc ad ar n p o&&Dk n (p+1) l
def GL(f:Nat)(args:List ah)(s:aY)(K:ah->aY->R):R:=match ar with
 |[]=>lp A f args s K
 |_::_=>
  T8 (AR ad ar s (s.length+s.length+8) (args.flatMap (refs depth)) []) λa=>
  let c:=λi=>lN i a;let b:=back a s.length;A.guard (II s.length a&&nodupB a&&LH ad ar s a args&&args.all (eo depth)) <|
  A.call f (args.map (ren c depth)) (a.map λi=>LG ad ar c i (s.getD i .dead)) λr d=>
   A.guard (Nat.ble a.length d.length) <|
   K (ren b depth r) (merge s a (GK ad ar b 0 d))
def AS(n:Nat)(ts a:List Nat)(st:ag)(K:ag->R):R:=match ar with
 |[]=>forget A n ts a st K
 |_::_=>A.guard (keeps st.aR a ts) (match ts.all (λt=>fB n depth (st.aR t))&&a.all (okB n st.bM)with
  |true=>match Dk ad ar n 0 (st.s.take n)with
   |true=>K ⟨tN st.aR ts,tO st.bM a,st.s.take n⟩
   |false=>K ⟨tN st.aR ts,tO st.bM a,st.s⟩
  |false=>K ⟨tN st.aR ts,tO st.bM a,st.s⟩)
def LI(n:Nat)(r:ah)(s:aY)(K:ah->aY->R):R:=match ar with
 |[]=>K r (gc n r s)
 |_::_=>match fB n depth r with
  |true=>match Dk ad ar n 0 (s.take n)with
   |true=>K r (s.take n)
   |false=>K r s
  |false=>K r s
def Ud(s:aY)(i j:Nat):Option aY:=match s.getD i .dead with
 |.box cs=>match cs.getD j .undef with
  |.raw sz n us=>match ad.yn us with
   |some vs=>some (s.set i (.box (cs.set j (.aP s.length 0 n n sz)))++[.box vs])
   |none=>none
  |_=>some s
 |_=>none
def GM(i:Nat):aY->Nat->Nat->Option aY
 |s,_,0=>some s
 |s,j,n+1=>match Ud ad s i j with
  |some a=>GM i a (j+1) n
  |none=>none
def LJ(d s:Nat)(x:O)(sz a c n:Nat)(cs:List fb)(st:ag)(K:ag->R):R:=match qX st (aO gl st x) sz with
 |some (us,k)=>match vz us with
  |some e=>A.guard (ad.AO c sz n k a) (wA A (ad.AN cs e) λb=>K ((st.set s .undef).set d (.raw sz (ad.l3 n k) b)))
  |none=>A.fail
 |none=>A.fail
def pq(i:I)(st:ag)(K:ag->R):R:=
 match i with
 |.oU aw ks m u x=>match aO gl st m,hI (aO gl st u)with
  |.map i,some k=>kO (du i ar) (λ_=>match st.s.getD i .dead with
   |.map es=>match ad.yt aw ks k (cX (aO gl st x)) es with
    |some w=>A.guard (eo depth (cX (aO gl st x))&&fc aw k&&(cG ks k.cells k.cells).isSome) (K {st with s:=st.s.set i (.map w)})
    |none=>A.fail
   |_=>A.fail) (λ_=>step A gl (.oU aw ks m u x) st K)
  |_,_=>A.fail
 |.aE d a n aw=>match aO gl st a with
  |.ptr i off=>kO (du i ar) (λ_=>match st.s.getD i .dead with
   |.box cs=>A.guard (ad.ha off n cs (aw||Nat.beq n 1)) (LD (cond aw (ad.l0 cs off n) (ad.kM cs off)) λv=>K (st.set d v))
   |_=>A.fail) (λ_=>match st.s.getD i .dead with
   |.box cs=>A.guard (Nat.ble (off+n) cs.length&&(aw||Nat.beq n 1)) (K (st.set d (valOf cs off n aw)))
   |_=>A.fail)
  |.d (.e2 cs off)=>A.guard (Nat.ble (off+n) cs.length) (K (st.set d (.d (cond aw (.agg ((cs.drop off).take n)) (cs.getD off .dJ)))))
  |_=>A.fail
 |.hs a x n=>match aO gl st a with
  |.ptr i off=>kO (du i ar) (λ_=>match st.s.getD i .dead with
   |.box cs=>
    let vs:=cellsOf (aO gl st x);A.guard (ad.lE (Nat.beq vs.length n) off n cs (vs.all kT)) (wA A (ad.kN cs off vs) λb=>K {kill st x with s:=st.s.set i (.box b)})
   |_=>A.fail) (λ_=>match st.s.getD i .dead with
   |.box cs=>
    let vs:=cellsOf (aO gl st x);A.guard (Nat.beq vs.length n&&Nat.ble (off+n) cs.length&&vs.all kT) (K {kill st x with s:=st.s.set i (.box (putCells cs off vs))})
   |_=>A.fail)
  |_=>A.fail
 |.aK d a=>match aO gl st a with
  |.ptr i off=>kO (du i ar) (λ_=>match st.s.getD i .dead with
   |.box cs=>A.guard (ad.AL off cs) (wA A (ad.Dg cs off) λb=>LD (ad.Df cs off) λv=>K ({st with s:=st.s.set i (.box b)}.set d v))
   |_=>A.fail) (λ_=>match st.s.getD i .dead with
   |.box cs=>A.guard (Nat.blt off cs.length) (K ({st with s:=st.s.set i (.box (cs.set off .undef))}.set d (cs.getD off .undef)))
   |_=>A.fail)
  |_=>A.fail
 |.oV d x z=>match aO gl st x with
  |.aP i off len _ sz=>kO (du i ar) (λ_=>match st.s.getD i .dead with
   |.box cs=>A.guard (ad.wy (Nat.beq z.length sz) off len sz cs) (wA A (ad.qp cs off len z) λb=>K ({st with s:=st.s.set i (.box b)}.dQ d (.tuple [])))
   |_=>A.fail) (λ_=>match st.s.getD i .dead with
   |.box cs=>A.guard (Nat.beq z.length sz&&Nat.ble (off+len*sz) cs.length) (K ({st with s:=st.s.set i (.box (putCells cs off (List.replicate len z).flatten))}.dQ d (.tuple [])))
   |_=>A.fail)
  |v=>match hJ v with
   |some (_,[])=>K (st.dQ d (.tuple []))
   |_=>A.fail
 |.mk d sz z n t=>match aO gl st n with
  |.d (.int _ n)=>kO (du st.s.length ar) (λ_=>A.guard (ad.wz n t) (wA A (ad.ym n.toNat z) λb=>K ({st with s:=st.s++[cc.box b]}.set d (.aP st.s.length 0 n.toNat n.toNat sz)))) (λ_=>A.guard (decide (0<=n)&&decide (n<=t)) (K ({st with s:=st.s++[cc.box (List.replicate n.toNat z).flatten]}.set d (.aP st.s.length 0 n.toNat n.toNat sz))))
  |_=>A.fail
 |.aP d e x p hi q=>match aO gl st x with
  |.aP j off len cap sz=>kO (du j ar) (λ_=>match bound gl st 0 p,bound gl st len hi,bound gl st cap q with
   |some l,some h,some m=>A.guard (ad.mC (Nat.beq sz e) l h m cap) (match ad.aB .eql l m with
    |true=>K (st.set d (.d (.list sz [])))
    |false=>K (st.set d (.aP j (ad.la off l sz) (ad.ns h l) (ad.ns m l) sz)))
   |_,_,_=>A.fail) (λ_=>step A gl (.aP d e x p hi q) st K)
  |v=>match hJ v with
   |some (sz,s)=>match bound gl st 0 p,bound gl st (ad.len s) hi,bound gl st (ad.len s) q with
    |some l,some h,some m=>A.guard (ad.mC (Nat.beq sz e) l h m (ad.len s)) (K (st.set d (.d (.list sz (ad.sub s l h)))))
    |_,_,_=>A.fail
   |none=>A.fail
 |.gJ d x off=>match aO gl st x with
  |.ptr i o=>kO (du i ar) (λ_=>K (st.set d (.ptr i (ad.l3 o off)))) (λ_=>K (st.set d (.ptr i (o+off))))
  |_=>step A gl (.gJ d x off) st K
 |.pL d x=>match x with
  |.t s=>match st.aR s with
   |.raw sz n cs=>wA A (ad.yn cs) λB=>K (({st with s:=st.s++[cc.box B]}.set s (.aP st.s.length 0 n n sz)).set d (.aP st.s.length 0 n n sz))
   |.ptr i off=>match st.s.getD i .dead with
    |.box cs=>match GM ad i st.s 0 cs.length with
     |some g=>K ({st with s:=g}.set d (.ptr i off))
     |none=>A.fail
    |_=>A.fail
   |v=>K (st.set d (snap v))
  |_=>A.fail
 |.n6 d f args=>match aO gl st f with
  |.d (.fn f)=>GL ad ar A f (args.map (j' gl st)) st.s λr g=>K ({st with s:=g}.dQ d r)
  |.func f a c=>GL ad ar A f (a++args.map (j' gl st)++c) st.s λr g=>K ({st with s:=g}.dQ d r)
  |_=>A.fail
 |.nH d own x=>match aO gl st x with
  |.aP k off len cap sz=>kO (du k ar) (λ_=>match st.s.getD k .dead with
   |.box bs=>match ad.AP off len cap sz bs with
    |some y=>K ({st with s:=st.s.set k .dead}.set d (match own with
     |true=>(match y with|.list sz l=>iL sz l|y=>.d y)
     |false=>.d y))
    |none=>A.fail
   |_=>A.fail) (λ_=>step A gl (.nH d own x) st K)
  |_=>step A gl (.nH d own x) st K
 |.so d s e x=>match st.aR s,aO gl st x with
  |.own sz l,.d (.int _ n)=>A.guard (ad.LB (Nat.beq sz e) n l) (K ((st.set s .undef).set d (ad.Dh sz l n)))
  |_,_=>A.fail
 |i=>step A gl i st K
def jm(i:I)(st:ag)(K:ag->R):R:=
 match i with
 |.dU d c a b=>match aO gl st c with
  |.d (.bool t)=>match t with
   |true=>K (st.set d (snap (aO gl st a)))
   |false=>K (st.set d (snap (aO gl st b)))
  |_=>A.fail
 |.bi d op x y=>match aO gl st x,aO gl st y with
  |.d (.int k a),.d (.int k' b)=>match Ua ad op k a b with
   |some r=>A.guard (ad.aB .geq b 0) (K (st.set d (.d r)))
   |none=>match T' ad op k a b with
    |some (ok,r)=>A.guard (decide (k=k')) (A.guard ok (K (st.set d (.d r))))
    |none=>A.fail
  |.d (.str a),.d (.str b)=>match Ub ad op a b with
   |some (ok,r)=>A.guard ok (K (st.set d (.d r)))
   |none=>A.fail
  |_,_=>A.fail
 |.un d op x=>match op,aO gl st x with
  |.not,.d (.bool b)=>(match b with
   |true=>K (st.set d (.d (.bool false)))
   |false=>K (st.set d (.d (.bool true))))
  |.neg,.d (.int k n)=>K (st.set d (.d (.int k (ad.io .sub k 0 n))))
  |.xor,.d (.int k n)=>K (st.set d (.d (.int k (ad.io .xor k (if k.signed then -1 else k.max) n))))
  |_,_=>A.fail
 |.ci d k x=>match aO gl st x with
  |.d (.int _ n)=>K (st.set d (.d (.int k (ad.wr k n))))
  |_=>A.fail
 |.gI d x=>match aO gl st x with
  |.d (.str s)=>K (st.set d (.d (.list 1 (ad.gI s))))
  |_=>A.fail
 |.mc d x i sz=>match aO gl st i with
  |.d (.int _ n)=>match aO gl st x with
   |.aP j off len _ p=>kO (du j ar) (λ_=>A.guard (ad.dS p sz n len) (K (st.set d (.ptr j (ad.la off n sz))))) (λ_=>A.guard (Nat.beq p sz&&decide (0<=n)&&decide (n<len)) (K (st.set d (.ptr j (off+n.toNat*sz)))))
   |v=>match hJ v with
    |some (p,l)=>A.guard (ad.dS p sz n (ad.len l)) (match ad.get l n with
     |.agg cs=>K (st.set d (.d (.e2 cs 0)))
     |x=>K (st.set d (.d (.e2 [x] 0))))
    |none=>A.fail
  |_=>A.fail
 |.mR d x i=>match aO gl st x,aO gl st i with
  |.d (.str s),.d (.int _ n)=>A.guard (ad.yl n (ad.dK s)) (K (st.set d (.d (fO (ad.wx s n)))))
  |_,_=>A.fail
 |.ss d x w hi=>match aO gl st x with
  |.d (.str s)=>match bound gl st 0 w,bound gl st (ad.dK s) hi with
   |some l,some h=>A.guard (ad.nn l h (ad.dK s)) (K (st.set d (.d (.str (ad.gN s l h)))))
   |_,_=>A.fail
  |_=>A.fail
 |.ap d s x sz e=>match st.aR s with
  |.own f l=>match qY st (aO gl st x)with
   |some (g,o)=>A.guard (ad.gap f sz g (ad.len l) (ad.len o) e) (K ((st.set s .undef).set d (.own sz (ad.app l o))))
   |none=>A.fail
  |.gH f=>match qY st (aO gl st x)with
   |some (g,o)=>A.guard (ad.gap f sz g (ad.len o) 0 e) (K ((st.set s .undef).set d (iL sz o)))
   |none=>A.fail
  |.raw f n cs=>LJ ad A gl d s x sz e f n cs st K
  |_=>hT A gl false false d s x sz e st K
 |.nF d s x sz e=>match st.aR s with
  |.raw f n cs=>LJ ad A gl d s x sz e f n cs st K
  |_=>hT A gl true false d s x sz e st K
 |.nG d s x sz e=>match st.aR s with
  |.raw f n cs=>LJ ad A gl d s x sz e f n cs st K
  |_=>hT A gl true true d s x sz e st K
 |.ln d s z i x sz e=>match st.aR s,tJ (st.aR z),st.aR i,hI (aO gl st x)with
  |.own f l,some (g,[_]),.d (.int _ n),some q=>
   A.guard (ad.GJ f sz g n (ad.len l) e (Nat.beq q.cells.length sz&&q.cells.all jt)) (K ((st.set s .undef).set d (.own sz (ad.app l [q]))))
  |_,_,_,_=>A.fail
 |.nE d str x=>match aO gl st x with
  |.aP _ _ len _ _=>A.guard (!str) (K (st.set d (.d (.int .i64 len))))
  |.d (.str s)=>A.guard str (K (st.set d (.d (.int .i64 (ad.dK s)))))
  |v=>match hJ v with
   |some (_,l)=>A.guard (!str) (K (st.set d (.d (.int .i64 (ad.len l)))))
   |none=>A.fail
 |.qU d lt x y=>match aO gl st x,aO gl st y with
  |.d (.int k a),.d (.int k' b)=>A.guard (decide (k=k')) (K (st.set d (.d (.int k (match (match lt with|true=>ad.aB .gtr a b|false=>ad.aB .lss a b)with|true=>b|false=>a)))))
  |_,_=>A.fail
 |.eq d neg aw ks x y=>match hI (aO gl st x),hI (aO gl st y)with
  |some a,some b=>A.guard (fc aw a&&fc aw b) <| amG A (ad.lD ks a.cells b.cells) λr=>match r with
   |true=>K (st.set d (.d (.bool (!neg))))
   |false=>K (st.set d (.d (.bool neg)))
  |_,_=>A.fail
 |.aH d aw ks m k z ok=>match aO gl st m with
  |.d (.lM aGH u)=>match hI (aO gl st k)with
   |none=>A.fail
   |some k=>A.guard (fc aw k&&(cG ks k.cells k.cells).isSome) <| match ad.look aw ks k aGH u with
    |some none=>K (st.set d (cond ok (.tuple [cX z,.d (.bool false)]) (cX z)))
    |some (some v)=>K (st.set d (cond ok (.tuple [.d v,.d (.bool true)]) (.d v)))
    |none=>A.fail
  |.map i=>kO (du i ar) (λ_=>match hI (aO gl st k)with
   |none=>A.fail
   |some k=>A.guard (fc aw k&&(cG ks k.cells k.cells).isSome) <| match st.s.getD i .dead with
    |.map es=>match ad.yr aw ks k es with
     |some none=>K (st.set d (cond ok (.tuple [cX z,.d (.bool false)]) (cX z)))
     |some (some v)=>K (st.set d (cond ok (.tuple [v,.d (.bool true)]) v))
     |none=>A.fail
    |_=>A.fail) (λ_=>step A gl (.aH d aw ks m k z ok) st K)
  |_=>step A gl (.aH d aw ks m k z ok) st K
 |i=>pq ad ar A gl i st K
def td:List cm->ag->(ag->R)->R
 |[],a,K=>K a
 |⟨none,i⟩::l,a,K=>jm ad ar A gl i a λa=>td l a K
 |⟨some (s,want),i⟩::l,a,K=>match a.aR s with
  |.d (.bool b)=>match want with
   |true=>(match b with
    |true=>jm ad ar A gl i a λa=>td l a K
    |false=>td l (a.dQ i.dst (.tuple [])) K)
   |false=>(match b with
    |true=>td l (a.dQ i.dst (.tuple [])) K
    |false=>jm ad ar A gl i a λa=>td l a K)
  |.tuple []=>td l (a.dQ i.dst (.tuple [])) K
  |_=>A.fail
def LK(g:cm)(st:ag)(K:ag->R):R:=match g.g with
 |none=>jm ad ar A gl g.i st K
 |some (s,want)=>match st.aR s with
  |.d (.bool b)=>match want with
   |true=>(match b with
    |true=>jm ad ar A gl g.i st K
    |false=>K (st.dQ g.i.dst (.tuple [])))
   |false=>(match b with
    |true=>K (st.dQ g.i.dst (.tuple []))
    |false=>jm ad ar A gl g.i st K)
  |.tuple []=>K (st.dQ g.i.dst (.tuple []))
  |_=>A.fail
def LL(c:Nat)(i:I)(st:ag):Option (cc×Nat×(Nat->ah)):=
 match i with
 |.mk d sz z n a=>kO (du c ar) (λ_=>match aO gl st n with
  |.d (.int _ n)=>cond (ad.wz n a) (match ad.ym n.toNat z with
   |some b=>some (.box b,d,λi=>.aP i 0 n.toNat n.toNat sz)
   |none=>none) none
  |_=>none) (λ_=>ku gl (.mk d sz z n a) st)
 |i=>ku gl i st
def GN(a:Nat)(g:cm)(st:ag)(K:ag->R):R:=match g.g,LL ad ar gl a g.i st with
  |none,some (o,d,v)=>A.guard (Nat.blt a st.s.length) (K ({st with s:=st.s.set a o}.set d (v a)))
  |_,_=>A.fail
def LM(a:Nat)(g:cm)(st:ag)(K:ag->R):R:=kO (ic g.i) (λ_=>match g.g,g.i with
  |none,.mk d sz z n b=>kO (du a ar) (λ_=>match aO gl st n with
   |.d (.int _ n)=>amD A (ad.wz n b) λ_=>wA A (ad.ym n.toNat z) λc=>A.guard (Nat.blt a st.s.length) (K ({st with s:=st.s.set a (.box c)}.set d (.aP a 0 n.toNat n.toNat sz)))
   |_=>A.fail) (λ_=>GN ad ar A gl a g st K)
  |_,_=>GN ad ar A gl a g st K) (λ_=>LK ad ar A gl g st K)
def LN(st b:ag)(args:List ah):ju:=
 {a:=some st.s.length,c:=some (AR ad ar st.s (st.s.length+st.s.length+8) (args.flatMap (refs depth)) [],st.s,b.s)}
def GO(d:Nat)(g:cm)(st b:ag):ju:=match g.g,g.i with
 |none,.n6 _ f args=>match aO gl st f with
  |.d (.fn _)=>LN ad ar st b (args.map (j' gl st))
  |.func _ a c=>LN ad ar st b (a++args.map (j' gl st)++c)
  |_=>{}
 |_,_=>vA gl d g st b
def GQ(a b:List (Nat×Nat×Nat)):Bool:=
 a.all λx=>b.all λy=>match Nat.beq x.1 y.1 with
  |false=>true
  |true=>!Nat.beq x.2.2 big&&!Nat.beq y.2.2 big&&(Nat.ble (x.2.1+x.2.2) y.2.1||Nat.ble (y.2.1+y.2.2) x.2.1)
def LO(x:cm)(b:ju)(y:cm)(a:ju):Bool:=
 qW b.k (y.rd++y.i.hw)&&qW a.k (x.rd++x.i.hw)&&GQ b.w (a.r++a.w)&&GQ a.w b.r&&pO b a&&pO a b&&sf b a&&sf a b
def GR:List cm->List (List Nat)->List (cm×ju)->Nat->ag->(ag->R)->R
 |[],_,_,_,st,K=>K st
 |g::l,b,acc,id,st,K=>
  LM ad ar A gl id g st λa=>
  A.guard ((b.headD []).all λi=>match acc[i]? with
   |some (x,c)=>LO x c g (GO ad ar gl id g st a)
   |none=>false) <|
  GR l b.tail (acc++[(g,GO ad ar gl id g st a)]) (kO (ic g.i) (λ_=>id+1) (λ_=>id)) a K
def LP(l:List cm)(a:List (List Nat))(st:ag)(K:ag->R):R:=GR ad ar A gl l a [] st.s.length (st.room (pP l)) K
def Dl(Y:jb R)(yi:Nat)(i:I)(st:ag)(p:Option aD)(K:ag->Option aD->R):R:=
 match BO gl st i,i with
 |.f' j,.n6 d _ args=>A.guard (Nat.beq j yi) (BN A gl Y d args st p K)
 |_,i=>jm ad ar A gl i st λst=>K st p
def tf(Y:jb R)(yi:Nat):List cm->ag->Option aD->(ag->Option aD->R)->R
 |[],a,p,K=>K a p
 |⟨none,i⟩::l,a,p,K=>Dl ad ar A gl Y yi i a p λa p=>tf Y yi l a p K
 |⟨some (s,want),i⟩::l,a,p,K=>match a.aR s with
  |.d (.bool b)=>match want with
   |true=>(match b with
    |true=>Dl ad ar A gl Y yi i a p λa p=>tf Y yi l a p K
    |false=>tf Y yi l (a.dQ i.dst (.tuple [])) p K)
   |false=>(match b with
    |true=>tf Y yi l (a.dQ i.dst (.tuple [])) p K
    |false=>Dl ad ar A gl Y yi i a p λa p=>tf Y yi l a p K)
  |.tuple []=>tf Y yi l (a.dQ i.dst (.tuple [])) p K
  |_=>A.fail
def pr(Y:jb R)(yi:Nat):eL->ag->Option aD->(aD->ag->Option aD->R)->R
 |.skip,d,p,K=>K .normal d p
 |.ops l,d,p,K=>tf ad ar A gl Y yi l d p (K .normal)
 |.any l f,d,p,K=>LP ad ar A gl l f d λd=>K .normal d p
 |.bad,_,_,_=>A.fail
 |.seq a b,d,p,K=>pr Y yi a d p λx d p=>match x with
  |.normal=>pr Y yi b d p K
  |x=>K x d p
 |.cond c a b,d,p,K=>match aO gl d c with
  |.d (.bool t)=>match t with
   |true=>pr Y yi a d p K
   |false=>pr Y yi b d p K
  |_=>A.fail
 |.block i b,d,p,K=>pr Y yi b d p λx d p=>match x with
  |.exit j=>cond (Nat.beq j i) (K .normal d p) (K (.exit j) d p)
  |x=>K x d p
 |.loop ts bs b,d,p,K=>A.guard p.isNone <| AS ad ar A d.s.length ts bs d λh=>
  A.fix (λe g=>pr Y yi b e none λx d p=>match x with
   |.normal=>A.guard p.isNone (AS ad ar A e.s.length ts bs d g)
   |x=>K x d p) h
 |.iy _ _ _ _,_,_,_=>A.fail
 |.exit i,d,p,K=>K (.exit i) d p
 |.ret,d,p,K=>K .ret d p
def GU(f d:ag->(aD->ag->R)->R)(ps:List Nat)(g:Nat)(c:List ah)(st:ag)(K:aD->ag->R):R:=
 A.iter g λa=>A.guard a.res.isEmpty <|
  pr ad ar A gl (sh A f d ps st.lP) st.s.length a.code {aR:=sg (.f' st.s.length::c) 0,bM:=λ_=>none,s:=st.s++[.dead]} none λe b p=>match e with
   |.exit _=>A.fail
   |_=>K (p.getD .normal) {st.lP with s:=b.s}
def h0:eL->ag->(aD->ag->R)->R
 |.skip,d,K=>K .normal d
 |.ops l,d,K=>td ad ar A gl l d (K .normal)
 |.any l h,d,K=>LP ad ar A gl l h d (K .normal)
 |.bad,_,_=>A.fail
 |.seq a b,d,K=>h0 a d λx d=>match x with
  |.normal=>h0 b d K
  |x=>K x d
 |.cond c a b,d,K=>match aO gl d c with
  |.d (.bool t)=>match t with
   |true=>h0 a d K
   |false=>h0 b d K
  |_=>A.fail
 |.block i b,d,K=>h0 b d λx d=>match x with
  |.exit j=>cond (Nat.beq j i) (K .normal d) (K (.exit j) d)
  |x=>K x d
 |.loop ts bs b,d,K=>AS ad ar A d.s.length ts bs d λn=>
  A.fix (λe m=>h0 b e λx d=>match x with
   |.normal=>AS ad ar A e.s.length ts bs d m
   |x=>K x d) n
 |.iy x f a b,d,K=>match aO gl d x with
  |.func g [] k=>GU ad ar A gl (h0 a) (h0 b) f g k d K
  |.d (.fn g)=>GU ad ar A gl (h0 a) (h0 b) f g [] d K
  |_=>A.fail
 |.exit i,d,K=>K (.exit i) d
 |.ret,d,K=>K .ret d
def uW(a:aW)(args:List ah)(s:aY)(K:ah->aY->R):R:=
 h0 ad ar A gl a.code {aR:=sg args 0,bM:=λ_=>none,s} λx b=>match x with
  |.exit _=>A.fail
  |_=>match q4 b a.res with
   |some r=>A.guard (eo depth r) (LI ad ar s.length r b.s K)
   |none=>A.fail
end
section
variable {ar:List Nat}{R:Type}{A:mT R}{gl:Nat->List D}
theorem ayd:T' bd.bU=BJ:=by funext op k a b;cases op<;>rfl
theorem aye:Ua bd.bU=xj:=by funext op k a b;cases op<;>rfl
theorem ayf:Ub bd.bU=BK:=by funext op a b;cases op<;>rfl
theorem Ue(i:Nat)(o:cc):LF bd.bU ar i o=o.refs:=aBK
theorem Uf(f:Nat->Nat)(i:Nat)(o:cc):LG bd.bU ar f i o=o.ren f:=aBK
theorem amH(n i:Nat)(o:cc):Uc bd.bU ar n i o=o.fB n:=aBK
theorem LQ(s:aY):∀(n:Nat) (a acc:List Nat),AR bd.bU ar s n a acc=reach s n a acc
 |0,_,_=>rfl
 |_+1,[],_=>rfl
 |n+1,i::a,acc=>by simp[AR,reach,Ue,LQ s n,T9]
theorem amI(s:aY)(a:List Nat)(args:List ah):LH bd.bU ar s a args=closed s a args:=by grind[LH,closed,Ue]
theorem Ug(f:Nat->Nat):∀(p:Nat) (l:List cc),GK bd.bU ar f p l=l.map (cc.ren f)
 |_,[]=>rfl
 |p,o::l=>by simp[GK,Uf,Ug f (p+1) l,aDe]
theorem LR(n:Nat):∀(p:Nat) (l:List cc),Dk bd.bU ar n p l=l.all (cc.fB n)
 |_,[]=>rfl
 |p,o::l=>by simp[Dk,amH,LR n (p+1) l,aEI]
theorem amJ(f:Nat)(args:List ah)(s:aY)(K:ah->aY->R):GL bd.bU ar A f args s K=lp A f args s K:=by
 cases ar with
 |nil=>rfl
 |cons a l=>grind[GL,lp,amE,LQ,amI,Uf,Ug]
theorem Uh(n:Nat)(ts b:List Nat)(st:ag)(K:ag->R):AS bd.bU ar A n ts b st K=forget A n ts b st K:=by
 cases ar with
 |nil=>rfl
 |cons a l=>
  simp[AS,forget,EI,LR];grind
theorem amK(n:Nat)(r:ah)(s:aY)(K:ah->aY->R):LI bd.bU ar n r s K=K r (gc n r s):=by
 cases ar with
 |nil=>rfl
 |cons a l=>
  simp[LI,gc,LR];grind
theorem amL(a:Nat)(i:I)(st:ag):LL bd.bU ar gl a i st=ku gl i st:=by
 cases i<;>first|rfl|(unfold LL;cases du a ar<;>rfl)
theorem Ui(i:Nat):∀(n:Nat) (s:aY) (j:Nat),GM bd.bU i s j n=qZ i s j n
 |0,_,_=>rfl
 |n+1,s,j=>by
  have h:Ud bd.bU s i j=xk s i j:=rfl;simp[GM,qZ,h];cases xk s i j with
  |none=>rfl
  |some a=>exact Ui i n a (j+1)
theorem amM(s:aY)(k off len cap sz:Nat):pN s (.aP k off len cap sz)=match s.getD k .dead with
  |.box bs=>(match bd.bU.AP off len cap sz bs with
   |some y=>some (y,k)
   |none=>none)
  |_=>none:=by
 simp[pN,bd.bU];grind
theorem amN(i:I)(st:ag)(K:ag->R):pq bd.bU ar A gl i st K=step A gl i st K:=by
 cases i;case n6 d f args=>
  simp[pq,step,amJ];rfl
 case pL d x=>
  simp[pq,step,Ui];rfl
 case nH d own x=>
  simp[pq,step];cases aO gl st x<;>try rfl
  grind[oD,amM]
 case aE d a n aw=>
  simp[pq,step,T7];cases aO gl st a<;>try first|rfl|(refine oD _ ?_;rfl)
  grind
 case hs a x n=>
  simp[pq,step];cases aO gl st a<;>first|rfl|(refine oD _ ?_;rfl)
 case aK d a=>
  simp[pq,step,T7];cases aO gl st a<;>first|rfl|(refine oD _ ?_;rfl)
 case oV d x z=>
  simp[pq,step];cases aO gl st x<;>first|rfl|(refine oD _ ?_;rfl)
 case mk d sz z n q=>
  simp[pq,step];cases aO gl st n<;>try rfl
  rename_i x;cases x<;>first|rfl|(refine oD _ ?_;rfl)
 case aP d r x s hi t=>
  simp[pq];split
  .rename_i e;refine oD _ ?_;have p:∀(l m:Int) (x y:ag),(match bd.bU.aB .eql l m with|true=>K x|false=>K y)=K (cond (decide (l=m)) x y):=by
    intro l m x y;show(match decide (l=m)with|true=>K x|false=>K y)=_;grind
   have h:∀(b:Bool) (x y:ah),st.set d (cond b x y)=cond b (st.set d x) (st.set d y):=az7;simp[step,e,p,h];rfl
  .rename_i e;simp[step];cases hJ (aO gl st x)<;>rfl
 case gJ d x off=>
  simp[pq,step];cases aO gl st x<;>first|rfl|(refine oD _ ?_;rfl)
 case oU aw ks m k x=>
  have o:∀(c:List (D×ah)) (k:D) (x:ah) (F:List (D×ah)->R),(match bd.bU.yt aw ks k x c with
   |some g=>F g
   |none=>A.fail)=match e4 aw ks k c 0 with
    |some j=>F (nI c k x j)
    |none=>A.fail:=by
   intro c k x F;show(match rL aw ks k x c with
    |some g=>F g
    |none=>A.fail)=_
   grind[rL]
  simp[pq,step,o];grind[oD]
 all_goals rfl
theorem GV(i:I)(st:ag)(K:ag->R):jm bd.bU ar A gl i st K=step A gl i st K:=by
 cases i;case ap d s x sz f=>
  simp[jm,step,hT];cases st.aR s<;>rfl
 case nF d s x sz f=>
  simp[jm,step,hT];cases st.aR s<;>rfl
 case nG d s x sz f=>
  simp[jm,step,hT];cases st.aR s<;>rfl
 case ln d s z i x sz f=>
  have h:∀a b c i n k t u,bd.bU.GJ a b c i n k (t&&u)=(Nat.beq a b&&Nat.beq c b&&decide (i=(n:Int))&&Nat.ble (n+1) k&&t&&u):=by
   intro a b c i n k t u;show(_&&(t&&u))=_;grind
  simp[jm,step,h];rfl
 case eq d neg aw ks x y=>
  have h:∀r:Bool,(match r with
   |true=>K (st.set d (.d (.bool (!neg))))
   |false=>K (st.set d (.d (.bool neg))))=K (st.set d (.d (.bool (cond neg (!r) r)))):=by
   simp
  simp[jm,step,h];rfl
 case un d op x=>
  have h:∀b:Bool,(match b with
   |true=>K (st.set d (.d (.bool false)))
   |false=>K (st.set d (.d (.bool true))))=K (st.set d (.d (.bool (!b)))):=by
   simp
  simp only[jm,step,h];rfl
 case mc d x i sz=>
  have h:∀(l:List D) (n:Int),(match bd.bU.get l n with
   |.agg cs=>K (st.set d (.d (.e2 cs 0)))
   |x=>K (st.set d (.d (.e2 [x] 0))))=K (st.set d (.d (.e2 (l.getD n.toNat .dJ).cells 0))):=by
   intro l n;show(match l.getD n.toNat .dJ with
    |.agg cs=>K (st.set d (.d (.e2 cs 0)))
    |x=>K (st.set d (.d (.e2 [x] 0))))=_
   cases l.getD n.toNat .dJ<;>rfl
  simp[jm,step,h];cases aO gl st i<;>try rfl
  rename_i y;cases y<;>try rfl
  cases aO gl st x<;>first|rfl|(refine oD _ ?_;rfl)
 case aH d aw ks m k z ok=>
  simp[jm];split
  .rename_i aGH g e;simp[step,e];cases hI (aO gl st k)with
   |none=>rfl
   |some k=>
    have h:bd.bU.look aw ks k aGH g=Di aw ks k aGH g:=rfl;grind[Di]
  .rename_i i e;refine oD _ ?_;simp[step,e];cases hI (aO gl st k)with
   |none=>rfl
   |some k=>
    have h:∀es,bd.bU.yr aw ks k es=tc aw ks k es:=λ_=>rfl;grind[tc]
  .rfl
 all_goals (refine aCO ?_ (amN (ar:=ar) _ _ _);rfl)
theorem ayg{c:Type}{b:Bool}{x y a y':c}(e:x=a)(d:y=y'):(match b with|true=>x|false=>y)=cond b a y':=az9
theorem LS:∀(l:List cm) (st:ag) (K:ag->R),td bd.bU ar A gl l st K=steps A gl l st K
 |[],st,K=>rfl
 |⟨none,i⟩::l,st,K=>by
  unfold td steps;rw[GV];exact congrArg _ (funext λst=>LS l st K)
 |⟨some (s,want),i⟩::l,st,K=>by
  simp[td,steps,GV,LS l];cases st.aR s<;>try rfl
  .rename_i x;cases x<;>try rfl
   rename_i b;cases want<;>cases b<;>rfl
  .rename_i vs;cases vs<;>rfl
theorem amO(g:cm)(st:ag)(K:ag->R):LK bd.bU ar A gl g st K=step1 A gl g st K:=by
 grind[LK,step1,GV]
theorem amP(a:Nat)(g:cm)(st:ag)(K:ag->R):GN bd.bU ar A gl a g st K=match g.g,ku gl g.i st with
  |none,some (o,d,v)=>A.guard (Nat.blt a st.s.length) (K ({st with s:=st.s.set a o}.set d (v a)))
  |_,_=>A.fail:=by
 grind[GN,amL]
theorem amQ:LO=BM:=by
 have h:GQ=mU:=by
  funext a b;unfold GQ mU;congr 1;grind
 grind[LO,BM]
theorem amR(a:Nat)(g:cm)(st:ag)(K:ag->R):LM bd.bU ar A gl a g st K=kV A gl a g st K:=by
 simp[LM,kV,amO,amP,T9];obtain⟨e,c⟩:=g;cases e with
 |some _=>simp
 |none=>
  cases c<;>try rfl
  rename_i d sz z n b;cases du a ar with
  |false=>rfl
  |true=>
   simp[ku];cases aO gl st n<;>try rfl
   rename_i x;cases x<;>try rfl
   rename_i k m;show(match (decide (0<=m)&&decide (m<=(b:Int)))with
    |true=>wA A _ _
    |false=>A.fail)=(match (none:Option (Nat×Bool)),(cond (decide (0<=m)&&decide (m<=(b:Int))) (some (cc.box (List.replicate m.toNat z).flatten,d,λi=>ah.aP i 0 m.toNat m.toNat sz)) none)with
    |none,some (o,d,v)=>A.guard (Nat.blt a st.s.length) (K ({st with s:=st.s.set a o}.set d (v a)))
    |_,_=>A.fail)
   cases decide (0<=m)&&decide (m<=(b:Int))<;>rfl
theorem amS(c:Nat)(g:cm)(st b:ag):GO bd.bU ar gl c g st b=vA gl c g st b:=by
 obtain⟨d,a⟩:=g;cases d with
 |some _=>cases a<;>rfl
 |none=>
  cases a<;>try rfl
  simp only[GO,LN,LQ];rfl
theorem Uj:∀(l:List cm) (a:List (List Nat)) (acc:List (cm×ju)) (b:Nat) (st:ag) (K:ag->R),GR bd.bU ar A gl l a acc b st K=q2 A gl l a acc b st K
 |[],_,_,_,_,_=>rfl
 |g::l,a,acc,b,st,K=>by
  simp[GR,q2,amR,amS,amQ,Uj l];rfl
theorem Uk:@LP bd.bU ar R A gl=q3 A gl:=by
 funext l a st K;exact Uj _ _ _ _ _ _
theorem amT(Y:jb R)(yi:Nat):∀(l:List cm) (st:ag) (p:Option aD) (K:ag->Option aD->R),tf bd.bU ar A gl Y yi l st p K=ie A gl Y yi l st p K:=by
 have a:∀i st p K,Dl bd.bU ar A gl Y yi i st p K=mV A gl Y yi i st p K:=by
  intro i st p K;simp[Dl,mV,GV];rfl
 intro l;induction l with
 |nil=>intro st p K;rfl
 |cons g l ih=>
  intro st p K;obtain⟨b,i⟩:=g;cases b with
  |none=>simp_all[tf,ie]
  |some q=>
   obtain⟨s,c⟩:=q;simp[tf,ie,a,ih];grind
theorem amU(Y:jb R)(yi:Nat):∀(c:eL) (st:ag) (p:Option aD) (K:aD->ag->Option aD->R),pr bd.bU ar A gl Y yi c st p K=hx A gl Y yi c st p K:=by
 intro c;induction c with
 |ops l=>intro st p K;exact amT Y yi l st p _
 |any l f=>simp_all[pr,hx,Uk]
 |seq a b e d=>
  intro st p K;simp[pr,hx,e,d];rfl
 |cond c a b e d=>
  grind[pr,hx]
 |block i b ih=>
  intro st p K;simp[pr,hx,ih];rfl
 |loop ts bs b ih=>
  intro st p K;simp[pr,hx,ih,Uh];rfl
 |_=>intro st p K;rfl
theorem GY:∀(c:eL) (st:ag) (K:aD->ag->R),h0 bd.bU ar A gl c st K=run A gl c st K:=by
 intro c;induction c with
 |ops l=>intro st K;exact LS l st _
 |any l n=>simp_all[h0,run,Uk]
 |seq a b h f=>
  intro st K;simp[h0,run,h,f];rfl
 |cond c a b h f=>
  grind[h0,run]
 |block i b ih=>
  intro st K;simp[h0,run,ih];rfl
 |loop ts bs b ih=>
  intro st K;simp[h0,run,ih,Uh];rfl
 |iy x d a b h f=>
  intro st K;have o:h0 bd.bU ar A gl a=run A gl a:=az9;have k:h0 bd.bU ar A gl b=run A gl b:=az9;have m:∀j iy d g e st K,GU bd.bU ar A gl j iy d g e st K=pQ A gl j iy d g e st K:=by
   intro j iy d g e st K;simp[GU,pQ,amU];rfl
  grind[h0,run]
 |_=>intro st K;rfl
theorem Ul(a:aW)(args:List ah)(s:aY)(K:ah->aY->R):uW bd.bU ar A gl a args s K=mf A gl a args s K:=by
 simp[uW,mf,GY,amK];rfl
end
section
variable {P:Program}{gl:Nat->List D}
theorem a6.fX(ar:List Nat){f:Nat}{b:aW}{args:List ah}{s s':aY}{r:ah}(h:a6 P f b)(c:∀a,a=bd.bU->∀Q:ah->aY->Prop,Q r s'->uW a ar (bA P gl) gl b args s Q):bD P gl f args s r s':=by
 have:=c _ rfl (λd e=>d=r/\e=s') ⟨rfl,rfl⟩;grind[Ul,hB]
theorem a6.ct{f:Nat}{b:aW}{args:List ah}{s s':aY}{r:ah}(h:a6 P f b)(c:∀a,a=bd.bU->∀Q:ah->aY->Prop,Q r s'->uW a [] (bA P gl) gl b args s Q):bD P gl f args s r s':=h.fX [] c
theorem a6.iX(ar:List Nat){f:Nat}{b:aW}{args:List ah}{s:aY}(Q:ah->aY->Prop)(h:a6 P f b)(c:∀a,a=bd.bU->∀K:ah->aY->Prop,(∀r s,Q r s->K r s)->uW a ar (fR P gl) gl b args s K):∃r s',Q r s'/\bD P gl f args s r s':=by
 have:=c _ rfl _ λ_ _ h=>h;rw[Ul]at this;obtain⟨r,s',e,d⟩:=h.ext this;grind
theorem a6.cn{f:Nat}{b:aW}{args:List ah}{s:aY}(Q:ah->aY->Prop)(h:a6 P f b)(c:∀a,a=bd.bU->∀K:ah->aY->Prop,(∀r s,Q r s->K r s)->uW a [] (fR P gl) gl b args s K):∃r s',Q r s'/\bD P gl f args s r s':=h.iX [] Q c
theorem Dm(s:List UInt8):∀(es:List (D×ah)) (i:Nat),(∀e∈es,∃t,e.1=.str t)->e4 false [2] (.str s) es i=some none\/∃j,j<es.length/\e4 false [2] (.str s) es i=some (some (i+j))
 |[],i,_=>.inl rfl
 |e::es,i,h=>by
  obtain⟨t,b⟩:=h e aDa;obtain⟨k,v⟩:=e;subst b;cases d:decide (s=t)with
  |true=>
   refine .inr ⟨0,Nat.zero_lt_succ _,?_⟩;show(match some (decide (s=t)&&true)with|some true=>some (some i)|some false=>e4 false [2] (.str s) es (i+1)|none=>none)=_;simp_all
  |false=>
   have a:e4 false [2] (.str s) ((.str t,v)::es) i=e4 false [2] (.str s) es (i+1):=by
    show(match some (decide (s=t)&&true)with|some true=>some (some i)|some false=>e4 false [2] (.str s) es (i+1)|none=>none)=_;rw[d];rfl
   rw[a];rcases Dm s es (i+1) λe f=>h e (aDu _ f)with h1|⟨j,h1,c⟩
   .exact .inl h1
   .exact .inr ⟨j+1,Nat.succ_lt_succ h1,by rw[c];congr 2;omega⟩
theorem amV{c:bd}(d:c=bd.bU)(s:List UInt8){a b:List D}(i:∀k∈a,∃t,k=.str t)(l:a.length=b.length):∃o,c.look false [2] (.str s) a b=some o/\∀v,o=some v->v∈b:=by
 subst d;show ∃o,Di false [2] (.str s) a b=some o/\_;unfold Di;rcases Dm s ((a.zip b).map λe=>(e.1,ah.d e.2)) 0 (λe f=>by
  obtain⟨p,g,rfl⟩:=aCY.1 f;exact i _ (List.of_mem_zip g).1)with h|⟨j,h1,m⟩
 all_goals simp_all
theorem bS{Q:ah->aY->Prop}{r a:ah}{s s':aY}(h:Q r s)(c:r=a)(b:s=s'):Q a s':=az8
def bX{b:Type}(S:b->ag)(J:b->Prop)(c:b->Nat)(n:Nat)(st:ag):Prop:=∃a,J a/\c a=n/\st=S a
theorem ea{a:Type}{S:a->ag}{J:a->Prop}{c:a->Nat}{n:Nat}{st:ag}(b:a)(d:J b)(f:c b<n)(e:st=S b):∃m,m<n/\bX S J c m st:=⟨_,f,b,d,rfl,e⟩
theorem dD{f:Nat}{a:List ah}{s:aY}{r:ah}{t:aY}{K:ah->aY->Prop}(b:K r t)(h:bD P gl f a s r t:=by assumption):∃r s2,bD P gl f a s r s2/\K r s2:=⟨r,t,h,b⟩
theorem dE{a b:Prop}(k:b)(h:a:=by first|assumption|(simp only[aH ae,aCx,aCA,aCv,aCU,aDm,aCF,aE',true_and,Int.ofNat_eq_natCast];omega)):a/\b:=⟨h,k⟩
theorem ayh{f:Nat}{a:List ah}{s:aY}{r:ah}{t:aY}{K:ah->aY->Prop}(h:bD P gl f a s r t)(b:K r t):∃r s2,bD P gl f a s r s2/\K r s2:=⟨r,t,h,b⟩
end
section
variable {P:Program}{gl:Nat->List D}{ad:bd}{ar:List Nat}
theorem amW(h:ad=bd.bU){a b:eL}{st:ag}{K:aD->ag->Prop}(f:aD->ag->Prop)(d:h0 ad ar (fR P gl) gl a st f)
  (i:∀x c,f x c->(match x with
   |.normal=>h0 ad ar (fR P gl) gl b c K
   |x=>K x c)):h0 ad ar (fR P gl) gl (.seq a b) st K:=by
 subst h;rw[GY]at d;obtain⟨e,g,k,k2⟩:=Sj (bt:=λ_ _=>False) d;have j:=i e g k;show h0 bd.bU ar (fR P gl) gl a st _;rw[GY];exact k2 _ j
def GZ:List eL->eL->eL
 |[],c=>c
 |a::l,c=>.seq a (GZ l c)
theorem yu(g:ad=bd.bU):∀(l:List eL) {c:eL} {st:ag} {K:aD->ag->Prop} (b:aD->ag->Prop),h0 ad ar (fR P gl) gl (GZ l .skip) st b->
  (∀x e,b x e->(match x with
   |.normal=>h0 ad ar (fR P gl) gl c e K
   |x=>K x e))->h0 ad ar (fR P gl) gl (GZ l c) st K
 |[],c,st,K,b,h1,d=>d .normal st h1
 |a::l,c,st,K,b,h1,d=>by
  refine amW g (λx st=>match x with
   |.normal=>h0 ad ar (fR P gl) gl (GZ l .skip) st b
   |x=>b x st) h1 λx e f=> ?_
  cases x with
  |normal=>exact yu g l b f d
  |exit i=>exact d _ _ f
  |ret=>exact d _ _ f
def Dn(aR:Nat->ah):List (Nat×ah)->Nat->ah
 |[]=>aR
 |(k,v)::l=>cK (Dn aR l) k v
theorem LU{aR:Nat->ah}:∀{l:List (Nat×ah)},(∀p∈l,aR p.1=p.2)->Dn aR l=aR
 |[],_=>rfl
 |(k,v)::l,h=>by
  show cK (Dn aR l) k v=aR;rw[LU (λp a=>h p (aDu _ a))];funext j;rw[dm];split
  .rename_i e;subst e;exact(h (j,v) aDa).symm
  .rfl
def qs(st:ag)(l:List (Nat×ah))(bM:Nat->Option (List ah))(s:aY):Prop:=(∀p∈l,st.aR p.1=p.2)/\st.bM=bM/\st.s=s
theorem qs.eq{st:ag}{l:List (Nat×ah)}{bM:Nat->Option (List ah)}{s:aY}(h:qs st l bM s):st=⟨Dn st.aR l,bM,s⟩:=by
 obtain⟨aR,c,e⟩:=st;obtain⟨d,a,b⟩:=h;grind[LU]
end
def aCI:=@decide_eq_true
theorem aAn(h:p:=by subst h;rfl):p:=h
theorem amX{a:Type}{o:Option a}{x:a}{K:a->Prop}:o=some x->K x->(match o with|some y=>K y|none=>False):=λh k=>az8
theorem amY{b:Bool}{K:Prop}:b=true->K->(match b with|true=>K|false=>False):=λh k=>az8
theorem ayj{R:Type}{A:mT R}{gl:Nat->List D}{a:bd}(h:a=bd.bU){ar b:List Nat}{c:eL}{st:ag}{K:aD->ag->R}:h0 a ar A gl c st K=h0 a b A gl c st K:=by
 grind[GY]
theorem LV:∀(vs a b:List ah),putCells a 0 vs=putCells a 0 vs->∀(c:List ah) (j:Nat),j+vs.length<=b.length->putCells (a++(b++c)) (a.length+j) vs=a++(putCells b j vs++c)
 |[],_,_,_,_,_,_=>rfl
 |v::vs,a,b,_,c,j,h=>by
  have d:(v::vs).length=vs.length+1:=rfl;show putCells ((a++(b++c)).set (a.length+j) v) (a.length+j+1) vs=a++(putCells (b.set j v) (j+1) vs++c);rw[List.set_append_right _ _ az6,show a.length+j-a.length=j by omega,List.set_append_left _ _ az6,aEg];exact LV vs a (b.set j v) rfl c (j+1) (by rw[aDE];omega)
theorem am0:∀(vs:List ah) (b:List ah) (j:Nat),(putCells b j vs).length=b.length
 |[],_,_=>rfl
 |v::vs,b,j=>by
  show(putCells (b.set j v) (j+1) vs).length=_;rw[am0 vs,aDE]
def kP(z:Nat)(rows:List (List ah)):Prop:=∀r∈rows,r.length=z
theorem kP.len{z:Nat}:∀{rows:List (List ah)},kP z rows->rows.flatten.length=rows.length*z
 |[],_=>az7
 |r::rows,h=>by
  have:=kP.len (rows:=rows) (λx b=>h x (aDu _ b));have a:=h r aDa;rw[List.flatten_cons,aCF,this,a,aCU,aDx];omega
theorem kP.cut{z:Nat}:∀{rows:List (List ah)},kP z rows->∀{i:Nat} (h:i<rows.length),∃a b,rows.flatten=a++(rows[i]++b)/\a.length=i*z/\∀c,(rows.set i c).flatten=a++(c++b)
 |r::rows,_,0,_=>⟨[],rows.flatten,rfl,az7,λc=>rfl⟩
 |r::rows,aM,i+1,h=>by
  obtain⟨a,b,g,d,f⟩:=kP.cut (rows:=rows) (λx e=>aM x (aDu _ e)) (i:=i) (Nat.lt_of_succ_lt_succ h);refine⟨r++a,b,?_,?_,λc=> ?_⟩
  .show r++rows.flatten=_;rw[g,aDK];rfl
  .rw[aCF,d,aM r aDa,aDx];omega
  .show r++(rows.set i c).flatten=_;rw[f,aDK]
theorem kP.set{z:Nat}{rows:List (List ah)}(a:kP z rows)(i:Nat){r:List ah}(c:r.length=z):kP z (rows.set i r):=λx b=>by
 rcases List.mem_or_eq_of_mem_set b with h|rfl
 .exact a x h
 omega
theorem kP.put{z:Nat}{rows:List (List ah)}(c:kP z rows){i:Nat}(h:i<rows.length){j:Nat}{vs:List ah}(g:j+vs.length<=z):putCells rows.flatten (i*z+j) vs=(rows.set i (putCells rows[i] j vs)).flatten:=by
 obtain⟨a,b,f,d,e⟩:=c.cut h;rw[f,e,<-d];exact LV vs a _ rfl b j (by rw[c _ (aCC h)];omega)
theorem kP.get{z:Nat}{rows:List (List ah)}(c:kP z rows){i:Nat}(h:i<rows.length){j:Nat}(d:j<z):rows.flatten.getD (i*z+j) .undef=rows[i].getD j .undef:=by
 obtain⟨a,b,f,e,_⟩:=c.cut h;have:=c _ (aCC h);grind
theorem kP.row{z:Nat}{rows:List (List ah)}(c:kP z rows){i:Nat}(h:i<rows.length):(rows.flatten.drop (i*z)).take z=rows[i]:=by
 obtain⟨a,b,e,d,_⟩:=c.cut h;have:=c _ (aCC h);simp_all
theorem kP.sub{z:Nat}{rows:List (List ah)}(c:kP z rows){i:Nat}(h:i<rows.length){j n:Nat}(f:j+n<=z):(rows.flatten.drop (i*z+j)).take n=(rows[i].drop j).take n:=by
 obtain⟨a,b,e,d,_⟩:=c.cut h;have:=c _ (aCC h);rw[e,<-d,<-aFe,List.drop_left,List.drop_append_of_le_length az6,List.take_append_of_le_length az9]
section
variable {ad:bd}(h:ad=bd.bU){z:Nat}{rows:List (List ah)}(aM:kP z rows){i:Nat}(hi:i<rows.length)
include h
theorem kf(i z:Nat):ad.la 0 (Int.ofNat i) z=i*z:=by
 simp_all[uV]
theorem qt(a b:Nat):ad.l3 a b=a+b:=aAn
include aM hi
theorem LW{j n:Nat}(a:j+n<=z):ad.ha (i*z+j) n rows.flatten true=true:=by
 rw[(uV h).2.1,aCI ?_];rfl;rw[aM.len];have:(i+1)*z<=rows.length*z:=aDi _ hi;grind
theorem G1{j n:Nat}(a:j+n<=z):ad.lE true (i*z+j) n rows.flatten true=true:=by
 rw[(uV h).2.2.1,aCI ?_];rfl;rw[aM.len];have:(i+1)*z<=rows.length*z:=aDi _ hi;grind
theorem am1{j:Nat}(a:j<z):ad.AL (i*z+j) rows.flatten=true:=by
 rw[(uV h).2.2.2.1,aCI ?_];rw[aM.len];have:(i+1)*z<=rows.length*z:=aDi _ hi;grind
theorem LX:ad.l0 rows.flatten (i*z) z=cX (.agg rows[i]):=by
 subst h;show cX (.agg ((rows.flatten.drop _).take _))=_;rw[aM.row hi]
theorem Um{j n:Nat}(a:j+n<=z):ad.l0 rows.flatten (i*z+j) n=cX (.agg ((rows[i].drop j).take n)):=by
 subst h;show cX (.agg ((rows.flatten.drop _).take _))=_;rw[aM.sub hi a]
theorem am2{j:Nat}(a:j<z):ad.kM rows.flatten (i*z+j)=snap (rows[i].getD j .undef):=by
 subst h;show snap (rows.flatten.getD _ _)=_;rw[aM.get hi a]
theorem am3{j:Nat}(a:j<z):ad.Df rows.flatten (i*z+j)=rows[i].getD j .undef:=by
 subst h;show rows.flatten.getD _ _=_;rw[aM.get hi a]
theorem am4{j:Nat}(a:j<z):ad.Dg rows.flatten (i*z+j)=some (rows.set i (rows[i].set j .undef)).flatten:=by
 subst h;exact congrArg some (aM.put hi (j:=j) (vs:=[.undef]) a)
theorem G2{j:Nat}{vs:List ah}(a:j+vs.length<=z):ad.kN rows.flatten (i*z+j) vs=some (rows.set i (putCells rows[i] j vs)).flatten:=by
 subst h;exact congrArg some (aM.put hi a)
end
open Go.RowKit Go.Sort
section
variable {P:Program}{gl:Nat->List D}{w:World}{G:bL}{ρ:List Nat}
def G3:List D:=Lib.pow10Tab.map λz=>.int .u64 z
structure G4(P:Program)(gl:Nat->List D)(f uX:Nat):Prop where
 name:P.globalNamed "internal/strconv.uint64pow10" =some uX
 tab:gl uX=G3
 all:∀(n:Int),-9223372036854775808<=n->n<=9223372036854775807->∀w:World,Lib.TabIs P w "internal/strconv.uint64pow10" .u64 Lib.pow10Tab->
  Calls P f #[.int .i64 n] w λe w'=>e=.returned (.string ⟨(Lib.itoa n).toArray⟩)/\Below w.heap.size w w'
theorem Un{k:IntKind}:∀{zs:List Int} {vs:List Value},cw w G vs (zs.map λz=>.int k z)->vs=zs.map λz=>.int k z
 |[],_,h=>by cases h;rfl
 |z::zs,_,h=>by
  cases h with
  |cons v _ vs _ h1 a=>
   cases h1;rw[Un a];rfl
theorem am5{f d:Nat}(J:G4 P gl f d)(h:pU gl w G):Lib.TabIs P w "internal/strconv.uint64pow10" .u64 Lib.pow10Tab:=by
 have e:=h.1 d;have a:=h.2 d;rw[J.tab]at e a;have m:(G3).length=20:=by grind[G3,Lib.pow10Tab_length]
 rcases a with a|⟨c,E,r,⟨_,_,a⟩,o⟩
 .omega
 .generalize g:Value.pointer (some ⟨d,0,none⟩)=q at e;cases e with
  |e2 b base off vs cs i k=>
   simp at g;obtain⟨rfl,g⟩:=g;have n:base=0:=az6;have t:=Un k;have u:vs.length=20:=by grind[Lib.pow10Tab_length]
   unfold Lib.TabIs World.var?;rw[J.name];simp[aFk,a,aCz];apply Array.ext
   .simp_all
   .intro j p s;have l:vs[j]?=some (vs[j]' az6):=aCB _;have:=(i j _ l).1;unfold World.cell? at this;grind
theorem am6{f l:Nat}{n:Int}{s:aY}(i:gq P f)(J:G4 P gl f l)(h: -9223372036854775808<=n)(j:n<=9223372036854775807):bD P gl f [.d (.int .i64 n)] s (.d (.str (Lib.itoa n))) s:=by
 refine wo i λw G ρ p m b k=> ?_;cases k with
 |cons v1 _ o _ a g=>
  cases g;cases a with
  |d _ _ a=>
   cases a;refine⟨_,J.all n h j w (am5 J b),?_⟩;rintro e q ⟨rfl,c⟩;exact⟨_,rfl,λ_=>.d _ _ (.str _ _ rfl),c⟩
theorem LY:∀(k n:Nat),n<10^(k+1)->(Lib.decDigits n).length<=k+1
 |0,n,h=>by simp_all[Lib.decDigits]
 |k+1,n,h=>by
  rw[Lib.decDigits];split
  .simp
  .have:=LY k (n/10) az6;simp_all
theorem am7{n:Int}(a: -9223372036854775808<=n)(b:n<=9223372036854775807):(Lib.itoa n).length<=20:=by
 unfold Lib.itoa;split
 .have:=LY 18 n.natAbs az6;simp_all
 .have:=LY 18 n.toNat az6;omega
end
section
variable {P:Program}{gl:Nat->List D}
def LZ(P:Program)(f:Nat):Prop:=∀(s:ByteArray) (c:Int) (w:World),Calls P f #[.string s,.int .u8 c] w λe a=>e=.returned (.int .i64 (Lib.indexByte s.data.toList c.toNat.toUInt8))/\a=w
theorem am8{f:Nat}{h:List UInt8}{c:Int}{s:aY}(k:gq P f)(J:LZ P f):bD P gl f [.d (.str h),.d (.int .u8 c)] s (.d (.int .i64 (Lib.indexByte h c.toNat.toUInt8))) s:=by
 refine wo k λw G t q o m l=> ?_;cases l with
 |cons v1 _ p _ g i=>
  cases i with
  |cons v3 _ n _ a j=>
   cases j;cases g with
   |d _ _ g=>
    cases g with
    |str b _ au=>
     cases a with
     |d _ _ a=>
      cases a;refine⟨_,J b c w,?_⟩;rintro e r ⟨rfl,rfl⟩;exact⟨_,rfl,λ_=>by rw[au];exact .d _ _ (.int _ _),Below.refl _ _⟩
theorem Uo:∀(l:List UInt8) (c:UInt8),Lib.indexByte l c= -1\/∃k:Nat,k<l.length/\Lib.indexByte l c=Int.ofNat k
 |[],_=>.inl rfl
 |b::l,c=>by
  unfold Lib.indexByte;split
  .exact .inr ⟨0,az7,rfl⟩
  .split
   .exact .inl rfl
   .rename_i h1 a;rcases Uo l c with h|⟨k,d,h⟩
    .rw[h]at a;exact absurd rfl a
    .exact .inr ⟨k+1,by simp;omega,by rw[h];rfl⟩
def G5(P:Program)(f:Nat):Prop:=(∀(a d c:Nat) (b:List Int) (w:World),Holds (Value.int .i64) w a d b.toArray->a<w.heap.size->b.length<4611686018427387904->
 Calls P f #[.slice (some ⟨a,d,none⟩) b.length c] w λe g=>e=.returned (.tuple #[])/\∃n h,g=grow (putRow (Value.int .i64) (Sort.ahead w n) a d (b.mergeSort λx y=>decide (x<=y)).toArray) h)/\
 ∀(p:Option Addr) (c:Nat) (w:World),Calls P f #[.slice p 0 c] w λe g=>e=.returned (.tuple #[])/\g=w
theorem am9{w:World}{n b:Nat}{os:Array Obj}{zs:List Int}{c:Array Value}{E:TypeId}{fz:Nat×Nat}(a:w.heap[b]?=some (.cells c E fz)):
  (grow (putRow (Value.int .i64) (Sort.ahead w n) b 0 zs.toArray) os).heap[b]?=some (.cells (Sort.putCells (Value.int .i64) 0 zs.toArray c) E fz):=by
 have d:=(aC'.1 a).1;unfold grow putRow mapBlock;rw[Array.getElem?_append_left az8,aEl,aCT rfl];show(w.heap[b]?).map _=_;rw[a];rfl
theorem am'{w:World}{n b k:Nat}{os:Array Obj}{zs:List Int}(c:k<w.heap.size)(a:k≠b):
  (grow (putRow (Value.int .i64) (Sort.ahead w n) b 0 zs.toArray) os).heap[k]?=w.heap[k]?:=by
 unfold grow putRow mapBlock;rw[Array.getElem?_append_left az8,aEl,aCV (λh=>a h.symm)];rfl
theorem ana{f:Nat}(K:gq P f)(J:G5 P f)(zs:List Int)(aM:zs.length<=1073741824):
  bD P gl f [.aP 0 0 zs.length zs.length 1] [.box (zs.map λz=>ah.d (.int .i64 z))] (.tuple []) [.box ((zs.mergeSort λx y=>decide (x<=y)).map λz=>ah.d (.int .i64 z))]:=by
 refine⟨K,λw G m vs q aF F e=> ?_⟩;cases e with
 |cons v1 _ nM _ h1 C=>
  cases C;cases h1 with
  |aP _ _ _ _ R _ b hi iB cj=>
   obtain⟨c,E,U,i,Y,r,V,N⟩:=(show dC w G m b (.obj 0) (.dk 0) _ from q.2 0 b _ hi rfl);rw[aCv]at V;have A:=(aC'.1 i).1;have Jc:∀j (h:j<zs.length),c[j]?=some (.int .i64 zs[j]):=λj h=>by
    have p:c[j]?=some (c[j]' az6):=aDh _;have:=N j _ (.d (.int .i64 zs[j])) p az7;rw[p];generalize c[j]' az6=v at*;cases (show c7 w G m v (.d (.int .i64 zs[j]))from this)with
    |d _ _ h=>cases h;rfl
   have B:Holds (Value.int .i64) w b 0 zs.toArray:=λj o=>by
    have o:=az6;rw[aDl];refine⟨?_,?_⟩
    .grind[cell_of_block]
    .rw[tZ i];grind
   refine(J.1 b 0 R zs w B A az6).mono ?_;rintro ad w' ⟨rfl,n,os,rfl⟩;obtain⟨a,u⟩:∃a,a=zs.mergeSort λx y=>decide (x<=y):=⟨_,rfl⟩;have rl:a.length=zs.length:=az8;rw[<-u];have s:=am9 (n:=n) (os:=os) (zs:=a) i;have gM:(Sort.putCells (Value.int .i64) 0 a.toArray c).size=c.size:=by grind[Sort.putCells]
   obtain⟨H,cq,M⟩:=GD (v:=.bool false) (G':=G) (s':=[cc.box (a.map λz=>ah.d (.int .i64 z))]) (o':=.box (a.map λz=>ah.d (.int .i64 z))) q F hi rfl r (λao h=>by grind[Value.ownBlock])
    (w':=grow (putRow (Value.int .i64) (Sort.ahead w n) b 0 a.toArray) os)
    ⟨rfl,rfl,az7,λk W L _=>am' W L⟩ (λ_=>.inl rfl) (λk aq t Q=>by
     rcases t with rfl|t
     .obtain⟨c2,ub,pY,l,bG⟩:=Q;rw[i]at l;simp at l;obtain⟨rfl,_,_⟩:=l;exact⟨_,_,_,s,az6⟩
     grind[Value.ownBlock])
    (show dC _ _ _ _ _ _ _ from⟨_,E,U,s,λj o=>Y j az6,r,az8,λj v x e g=>by
     rw[aDC]at g;have S:j<a.length:=az9;rw[aCB S]at g;simp at g;subst g;have Z:j<c.size:=az6;unfold Sort.putCells at e;rw[Array.getElem?_mapIdx,aDh Z]at e;have zO:0<=j/\j<0+a.toArray.size:=⟨aCu _,az8⟩;simp only[aDD,aCz,aCT zO]at e;subst e;have:a.toArray[j-0]! =a[j]:=az8;rw[this];exact .d _ _ (.int _ _)⟩)
   exact⟨_,G,m,rfl,.tuple [] _ .nil,H,cq,M,λ_ _ h=>h⟩
theorem anb{f:Nat}(c:gq P f)(J:G5 P f):bD P gl f [.d (.list 1 [])] [] (.tuple []) []:=by
 refine wo c λw G o i k j g=> ?_;cases g with
 |cons v1 _ l _ h1 a=>
  cases a;cases h1 with
  |d _ _ h1=>
   have:∃p cap,v1=.slice p 0 cap:=by
    cases h1 with
    |kZ=>simp
    |list b off n cap _ _ i h=>simp_all
   obtain⟨p,cap,rfl⟩:=this;refine⟨_,J.2 p cap w,?_⟩;rintro e m ⟨rfl,rfl⟩;exact⟨_,rfl,λ_=>.tuple [] _ .nil,Below.refl _ _⟩
end
open Go.RowKit Go.Sort Go.Lib
section
variable {P:Program}{gl:Nat->List D}
def L1(P:Program)(f sz T:Nat):Prop:=∃(b:TypeInfo) (z:Value),b.size=sz/\z.cells.size=sz/\0<sz/\b.bytes<=1000/\
 (∀(a:Option Addr) (w:World),Calls P f #[.slice a 0 0,.int .i64 0] w λe c=>e=.returned (.slice a 0 0)/\c=w)/\
 ∀(a:Option Addr) (n:Nat) (w:World),0<n->n*b.bytes<=140737488355328->n<=4611686018427387904->Calls P f #[.slice a 0 0,.int .i64 n] w λe c=>
  e=.returned (.slice (some ⟨w.heap.size,0,none⟩) 0 (grownCap w n 0 T))/\c=w.drew.alloc (.cells (Builtin.zeroCells z.cells n++Builtin.zeroCells z.cells (grownCap w n 0 T-n)) T)
theorem anc{f sz T n:Nat}(A:gq P f)(J:L1 P f sz T)(s:n<=1048576):
  bD P gl f [.own sz [],.d (.int .i64 (Int.ofNat n))] [] (.gH sz) []:=by
 obtain⟨H,z,Q,M,u,q,y,C⟩:=J;refine⟨A,λw G p V l L c m=> ?_⟩;cases m with
 |cons v1 _ S _ q1 x=>
  cases x with
  |cons v2 _ U _ g E=>
   cases E;cases g with
   |d _ _ g=>
    cases g;cases q1 with
    |nil a _=>
     rcases aFp n with rfl|F
     .refine(y a w).mono ?_;rintro e K ⟨rfl,rfl⟩;exact⟨_,G,p,rfl,.inr ⟨a,rfl⟩,l,c,Good.refl c,λ_ _ h=>h⟩
     .have t:n*H.bytes<=140737488355328:=aDn (Nat.mul_le_mul s q) az';refine(C a n w F t az6).mono ?_;rintro e K ⟨rfl,rfl⟩;have k:gD w (.cells (Builtin.zeroCells z.cells n++Builtin.zeroCells z.cells (grownCap w n 0 T-n)) T) (w.drew.alloc (.cells (Builtin.zeroCells z.cells n++Builtin.zeroCells z.cells (grownCap w n 0 T-n)) T)):=⟨rfl,rfl,rfl⟩;have R:=grownCap_ge w n 0 T;refine⟨_,fQ w G .res 0,p,rfl,.inl ⟨w.heap.size,0,grownCap w n 0 T,_,T,(0,0),[],rfl,aCu _,k.new,λj _ h=>az6,?_,u,by rw[fQ,iO];simp,λd B=>(aC5 B).elim,λj v m=>az8,.nil⟩,⟨l.1,λi b o _ N=>az8⟩,k.lt c,k.good c az7,λ_ _ h=>h⟩;have r:(Builtin.zeroCells z.cells n++Builtin.zeroCells z.cells (grownCap w n 0 T-n)).size=n*sz+(grownCap w n 0 T-n)*sz:=aAQ;rw[r,<-aDx];simp_all
theorem aAH(h:p:=by simp at hv):p:=h
def aC3:=@decide_eq_false
def aC1:=@Exists.elim
def jZ(q p:Prop):Prop:=q->p
theorem jZ.rfl{p:Prop}:jZ p p:=id
theorem G6{q p:Prop}(h:jZ q p:=by(conv=>arg 2;cbv);first|(show jZ _ (Exists _);exact ane)|(show jZ _ (And _ _);exact anf)|((first|simp -proj only[‹_=true›]|simp -proj only[‹_=false›]|simp -proj only[‹_=some _›]|simp -proj only[‹_=none›]|simp -proj only[t2]|simp -proj only[t1]|simp -proj only[bp]|simp -proj only[a2]|simp -proj only[a3]|simp -proj only[bq]|simp -proj only[aT]|simp -proj only[b3]|simp -proj only[t3]|simp -proj only[c1]|simp -proj only[c2]|simp -proj only[c3]|simp -proj only[t5]|simp -proj only[d1]|simp -proj only[d2]|simp -proj only[d3]|simp -proj only[cI]|simp -proj only[t4]|simp -proj only[g1]|simp -proj only[t6]|simp -proj only[t0]|simp -proj only[jn]|simp -proj only[fw]|simp -proj only[g2]|simp -proj only[b7]|simp -proj only[d']|simp -proj only[bP]|simp -proj only[bZ]|simp -proj only[cx]|simp -proj only[g3]|simp -proj only[eG]|simp -proj only[w1]|simp -proj only[b5]|simp -proj only[cb]|simp -proj only[f1]|simp -proj only[t7]|simp -proj only[eY]|simp -proj only[cp]|simp -proj only[r0]|simp -proj only[fa]|simp -proj only[cy]|simp -proj only[t8]|simp -proj only[l4]|simp -proj only[f2]|simp -proj only[fG]|simp -proj only[cq]|simp -proj only[jz]|simp -proj only[jL]|simp -proj only[lb]|simp -proj only[f0]|simp -proj only[q1]|simp -proj only[g']|simp -proj only[dG]|simp -proj only[v1]|simp -proj only[jj]|simp -proj only[h1]|simp -proj only[v2]|simp -proj only[v3]|simp -proj only[v4]|simp -proj only[hD]|simp -proj only[af]|simp -proj only[u8]|simp -proj only[jw]|simp -proj only[av]|simp -proj only[nS]|simp -proj only[ni]|simp -proj only[hl]|simp -proj only[z2]|simp -proj only[z3]|simp -proj only[f3]|simp -proj only[kG]|simp -proj only[bG]|simp -proj only[uY]|simp -proj only[pv]|simp -proj only[tg]|simp -proj only[lC]|simp -proj only[v5]|simp -proj only[cM]|simp -proj only[KP]|simp -proj only[g0]|simp -proj only[fH]|simp -proj only[dB]|simp -proj only[gE]|simp -proj only[ang]|simp -proj only[mu]|simp -proj only[m1]|simp -proj only[m2]|simp -proj only[uy]|simp -proj only[L2]|simp -proj only[aj]|simp -proj only[aC]|simp -proj only[aX]|simp -proj only[g4]|simp -proj only[ow]|simp -proj only[ri]|simp -proj only[pc]|simp -proj only[rv]|simp -proj only[Aa]|simp -proj only[qu]|simp -proj only[uB]);exact G6)|exact jZ.rfl):jZ q p:=h
theorem ane{q:Prop}{f:Nat}{a:List ah}{s:aY}{r:ah}{t:aY}{K:ah->aY->Prop}(h:bD P gl f a s r t:=by assumption)(k:jZ q (K r t):=by exact G6):jZ q (∃r b,bD P gl f a s r b/\K r b):=λx=>⟨r,t,h,k x⟩
theorem anf{q a b:Prop}(h:a:=by first|assumption|(simp only[aH ae,aCx,aCA,aCv,aCU,aDm,aCF,aE',true_and,Int.ofNat_eq_natCast];omega))(k:jZ q b:=by exact G6):jZ q (a/\b):=λx=>⟨h,k x⟩
theorem ak{p q:Prop}(k:q)(h:jZ q p:=by exact G6):p:=h k
theorem G7{q p:Prop}(h:jZ q p:=by(conv=>arg 2;whnf);first|(show jZ _ (_=true/\_);exact anh)|(show jZ _ (cond _ _ _);exact ani)|exact jZ.rfl):jZ q p:=h
theorem anh{q a:Prop}{b:Bool}(h:b=true:=by kernel_rfl)(k:jZ q a:=by exact G7):jZ q (b=true/\a):=λx=>⟨h,k x⟩
theorem ani{q A B:Prop}{b c:Bool}(h:b=c:=by first|assumption|exact T6 aAk)(k:jZ q (cond c A B):=by exact G7):jZ q (cond b A B):=λx=>h▸k x
theorem db{p q:Prop}(k:q)(h:jZ q p:=by exact G7):p:=h k
theorem c6{P:Program}{gl:Nat->List D}{f:Nat}{b a:List ah}{s s':aY}{r:ah}{t:aY}{K:ah->aY->Prop}{q:Prop}(h:bD P gl f b s r t)(k:q)(d:a=b:=by kernel_rfl)(c:s'=s:=by kernel_rfl)(e:jZ q (K r t):=by exact G7):∃r s2,bD P gl f a s' r s2/\K r s2:=by
 subst d;subst c;exact⟨r,t,h,e k⟩
theorem hb{b:Type}{R:b->ah}{S:b->aY}{f:Nat}{a:List ah}{s:aY}(h:∃r s',(∃x,r=R x/\s'=S x)/\bD P gl f a s r s'):∃x,bD P gl f a s (R x) (S x):=by
 obtain⟨_,_,⟨x,rfl,rfl⟩,h⟩:=h;exact⟨x,h⟩
theorem eW{a:Type}{Q:a->Prop}{R:a->ah}{S:a->aY}{f:Nat}{b:List ah}{s:aY}(h:∃r s',(∃x,Q x/\r=R x/\s'=S x)/\bD P gl f b s r s'):∃x,Q x/\bD P gl f b s (R x) (S x):=by
 obtain⟨_,_,⟨x,c,rfl,rfl⟩,h⟩:=h;exact⟨x,c,h⟩
theorem wC{b c:Type}{R:b->c->ah}{S:b->c->aY}{f:Nat}{a:List ah}{s:aY}(h:∃r s',(∃x y,r=R x y/\s'=S x y)/\bD P gl f a s r s'):∃x y,bD P gl f a s (R x y) (S x y):=by
 obtain⟨_,_,⟨x,y,rfl,rfl⟩,h⟩:=h;exact⟨x,y,h⟩
theorem Dp{a b:Type}{Q:a->b->Prop}{R:a->b->ah}{S:a->b->aY}{f:Nat}{c:List ah}{s:aY}(h:∃r s',(∃x y,Q x y/\r=R x y/\s'=S x y)/\bD P gl f c s r s'):∃x y,Q x y/\bD P gl f c s (R x y) (S x y):=by
 obtain⟨_,_,⟨x,y,d,rfl,rfl⟩,h⟩:=h;exact⟨x,y,d,h⟩
theorem G8{b c a:Type}{Q:b->c->a->Prop}{R:b->c->a->ah}{S:b->c->a->aY}{f:Nat}{d:List ah}{s:aY}(h:∃r s',(∃x y z,Q x y z/\r=R x y z/\s'=S x y z)/\bD P gl f d s r s'):∃x y z,Q x y z/\bD P gl f d s (R x y z) (S x y z):=by
 obtain⟨_,_,⟨x,y,z,e,rfl,rfl⟩,h⟩:=h;exact⟨x,y,z,e,h⟩
theorem fixF{a:Type}{S:a->ag}{J:a->Prop}{c:a->Nat}{n:Nat}{st:ag}(b:a)(d:J b)(e:st=S b:=by kernel_rfl)(f:c b<n:=by first|omega|(dsimp only;omega)):∃m,m<n/\bX S J c m st:=⟨_,f,b,d,rfl,e⟩
end
end Go.aG
