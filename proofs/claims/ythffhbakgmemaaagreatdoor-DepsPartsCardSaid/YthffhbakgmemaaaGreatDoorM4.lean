/- Part of parts_said. -/
import Derived.Test.YthffhbakgmemaaaGreatDoorM3
import Derived.RangeFuncCalls
set_option linter.defProp false
set_option maxRecDepth 100000
set_option maxHeartbeats 8000000
set_option linter.unusedSimpArgs false
set_option linter.unusedVariables false
namespace Go.aG
variable {p:Prop}
def aDA:=@List.getElem?_eq_some_iff
def aFt:=@List.set_comm
def aDY:=@Bool.or_eq_true
theorem aBl(h:p:=by cases b<;>simp[kU]at h;rfl):p:=h
theorem aBJ(h:p:=by cases b<;>simp[kU]at h;rw[h]):p:=h
inductive SW where
 |c (i off:Nat) (v:ah)
 |o (i:Nat) (ob:cc)
 |n (ob:cc)
def SW.app:SW->aY->aY
 |.c i off v,s=>match s.getD i .dead with
  |.box cs=>s.set i (.box (cs.set off v))
  |_=>s
 |.o i ob,s=>s.set i ob
 |.n ob,s=>s++[ob]
def apps:List SW->aY->aY
 |[],s=>s
 |u::ws,s=>apps ws (u.app s)
structure iF where
 rd:List (Nat×Nat×List ah):=[]
 ro:List (Nat×cc):=[]
 len:Option Nat:=none
 ws:List SW:=[]
 k:List Nat:=[]
def Ki(s:aY)(q:Nat×Nat×List ah):Prop:=∃a,s[q.1]?=some (.box a)/\q.2.1+q.2.2.length<=a.length/\(a.drop q.2.1).take q.2.2.length=q.2.2
structure jk(E:iF)(s:aY):Prop where
 rd:∀q,q∈E.rd->Ki s q
 ro:∀q,q∈E.ro->s[q.1]?=some q.2
 len:∀n,E.len=some n->s.length=n
def SW.at(E:iF):SW->Prop
 |.c i off _=>∃q,q∈E.rd/\q.1=i/\q.2.1<=off/\off<q.2.1+q.2.2.length
 |.o i _=>∃q,q∈E.ro/\q.1=i
 |.n _=>E.len≠none
def SW.idx(s:aY):SW->Prop
 |.c i _ _=>i<s.length
 |.o i _=>i<s.length
 |.n _=>True
theorem FM(u:SW)(s:aY):s.length<=(u.app s).length:=by
 cases u with
 |c i off v=>grind[SW.app]
 |o i ob=>simp[SW.app]
 |n ob=>simp[SW.app]
theorem FN{u a:SW}{s:aY}(h:u.idx s):u.idx (a.app s):=by
 have:=FM a s;cases u with
 |c i off v=>exact aC2 h this
 |o i ob=>exact aC2 h this
 |n ob=>trivial
theorem QS{E:iF}{u:SW}{s:aY}(h:u.at E)(aw:jk E s):u.idx s:=by
 cases u with
 |c i off v=>
  obtain⟨q,aS,rfl,_⟩:=h;obtain⟨a,h1,_⟩:=aw.rd q aS;exact(aDA.1 h1).1
 |o i ob=>
  obtain⟨q,aS,rfl⟩:=h;exact(aDA.1 (aw.ro q aS)).1
 |n ob=>trivial
def SW.ind:SW->SW->Prop
 |.c i off _,.c j a _=>i≠j\/off≠a
 |.c i _ _,.o j _=>i≠j
 |.o i _,.c j _ _=>i≠j
 |.o i _,.o j _=>i≠j
 |.n _,.n _=>False
 |_,_=>True
theorem getD_set_ne{s:aY}{i j:Nat}{ob:cc}(h:i≠j):(s.set i ob).getD j .dead=s.getD j .dead:=az8
theorem axu{s:aY}{i:Nat}{ob:cc}(h:i<s.length):(s.set i ob).getD i .dead=ob:=az8
theorem axv{s:aY}{i:Nat}{ob:cc}(h:i<s.length):(s++[ob]).getD i .dead=s.getD i .dead:=az9
theorem ajt{u l:SW}{s:aY}(h:u.ind l)(h1:u.idx s)(p:l.idx s):u.app (l.app s)=l.app (u.app s):=by
 have A:∀(i d:Nat) (v:ah) (j f:Nat) (g:ah),i≠j\/d≠f->i<s.length->j<s.length->(SW.c i d v).app ((SW.c j f g).app s)=(SW.c j f g).app ((SW.c i d v).app s):=by
  intro i d v j f g h E B;by_cases m:i=j
  .have C:=by omega
   simp[SW.app];cases au:s.getD i .dead with
   |box cs=>
    simp_all[aFt,aCP]
   |_=>simp_all
  .simp only[SW.app];cases au:s.getD i .dead<;>cases z:s.getD j .dead<;>simp only[au,z,getD_set_ne m,getD_set_ne (aCP m)];simp_all[aFt,aCP]
 have r:∀(i d:Nat) (v:ah) (j:Nat) (a:cc),i≠j->(SW.c i d v).app ((SW.o j a).app s)=(SW.o j a).app ((SW.c i d v).app s):=by
  intro i d v j a m;simp only[SW.app,getD_set_ne (aCP m)];cases au:s.getD i .dead<;>simp;simp_all[aFt]
 have t:∀(i d:Nat) (v:ah) (a:cc),i<s.length->(SW.c i d v).app ((SW.n a).app s)=(SW.n a).app ((SW.c i d v).app s):=by
  grind[SW.app]
 have w:∀(i:Nat) (k a:cc),i<s.length->(SW.o i k).app ((SW.n a).app s)=(SW.n a).app ((SW.o i k).app s):=by
  grind[SW.app]
 cases u with
 |c i d v=>cases l with
  |c j f g=>exact A i d v j f g h h1 p
  |o j a=>exact r i d v j a h
  |n a=>exact t i d v a h1
 |o i k=>cases l with
  |c j f g=>exact(r j f g i k (aCP h)).symm
  |o j a=>simp[SW.app];rw[aFt _ _ (aCP h)]
  |n a=>exact w i k a h1
 |n k=>cases l with
  |c j f g=>exact(t j f g k p).symm
  |o j a=>exact(w j a k p).symm
  |n a=>exact h.elim
theorem QT{u:SW}:∀{ws:List SW} {s:aY},(∀v,v∈ws->u.ind v)->u.idx s->(∀v,v∈ws->v.idx s)->apps ws (u.app s)=u.app (apps ws s)
 |[],_,_,_,_=>rfl
 |v::ws,s,h,h1,c=>by
  simp[apps];rw[<-ajt (h v az7) h1 (c v az7)];exact QT (λw a=>h w (by simp[a])) (FN h1) (λw a=>FN (c w (by simp[a])))
theorem QU:∀{us ws:List SW} {s:aY},(∀u,u∈us->∀v,v∈ws->u.ind v)->(∀u,u∈us->u.idx s)->(∀v,v∈ws->v.idx s)->apps us (apps ws s)=apps ws (apps us s)
 |[],_,_,_,_,_=>rfl
 |u::us,ws,s,h,h1,c=>by
  simp[apps];rw[<-QT (h u az7) (h1 u az7) c];exact QU (λw a=>h w (by simp[a])) (λw a=>FN (h1 w (by simp[a]))) (λv d=>FN (c v d))
def SW.safe(E:iF):SW->Prop
 |.c i off _=>(∀q,q∈E.rd->q.1≠i\/off<q.2.1\/q.2.1+q.2.2.length<=off)/\∀q,q∈E.ro->q.1≠i
 |.o i ob=>(∀q,q∈E.rd->q.1≠i\/∃a,ob=.box a/\q.2.1+q.2.2.length<=a.length/\(a.drop q.2.1).take q.2.2.length=q.2.2)/\∀q,q∈E.ro->q.1≠i
 |.n _=>E.len=none
theorem QV{cs:List ah}{off n j:Nat}{v:ah}(h:j<off\/off+n<=j):((cs.set j v).drop off).take n=(cs.drop off).take n:=by
 apply aEm;grind
theorem aju{E:iF}{u:SW}{s:aY}(h:u.safe E)(aw:jk E s):jk E (u.app s):=by
 cases u with
 |c i off v=>
  simp[SW.app];split
  .rename_i g au;have m:i<s.length:=az9;have p:s[i]?=some (.box g):=az8;refine⟨λq aS=> ?_,λq aS=> ?_,λn k=>by grind[jk.len]⟩
   .obtain⟨f,h1,a,d⟩:=aw.rd q aS;by_cases j:q.1=i
    .have w:=(h.1 q aS).resolve_left (λl=>l j);rw[j]at h1;rw[p]at h1;simp at h1;refine⟨g.set off v,az8,az8,?_⟩;grind[QV]
    .exact⟨f,az9,a,d⟩
   .rw[aDb (aCP (h.2 q aS))];exact aw.ro q aS
  omega
 |o i ob=>
  simp[SW.app];refine⟨λq aS=> ?_,λq aS=> ?_,λn k=>by grind[jk.len]⟩
  .obtain⟨f,h1,a,d⟩:=aw.rd q aS;by_cases j:q.1=i
   .obtain⟨g,rfl,r,t⟩:=(h.1 q aS).resolve_left (λl=>l j);have m:i<s.length:=az9;exact⟨g,az8,r,t⟩
   .exact⟨f,az9,a,d⟩
  .rw[aDb (aCP (h.2 q aS))];exact aw.ro q aS
 |n ob=>
  simp[SW.app];refine⟨λq aS=> ?_,λq aS=> ?_,λn k=>by rw[show E.len=none from h]at k;simp_all⟩
  .obtain⟨f,h1,a,d⟩:=aw.rd q aS;have m:=(aDA.1 h1).1;exact⟨f,az9,a,d⟩
  .have m:=(aDA.1 (aw.ro q aS)).1;grind[jk.ro]
theorem QW{E:iF}:∀{ws:List SW} {s:aY},(∀u,u∈ws->u.safe E)->jk E s->jk E (apps ws s)
 |[],_,_,aw=>aw
 |u::ws,s,h,aw=>by
  exact QW (s:=u.app s) (λv a=>h v (by simp[a])) (aju (h u az7) aw)
structure FO(X Y:iF):Prop where
 old:∀i ob,SW.o i ob∈Y.ws->∀q,q∈X.rd->q.1=i->∃cs,(i,cc.box cs)∈Y.ro/\q.2.1+q.2.2.length<=cs.length/\(cs.drop q.2.1).take q.2.2.length=q.2.2
 len:∀n,Y.len=some n->(∀q,q∈X.rd->q.1<n)/\(∀q,q∈X.ro->q.1<n)/\X.len=none
structure FP(X Y:iF):Prop where
 QX:∀u,u∈Y.ws->u.safe X
 QY:∀u,u∈X.ws->u.safe Y
 ww:∀u,u∈X.ws->∀v,v∈Y.ws->u.ind v
 ajv:FO X Y
 QZ:FO Y X
theorem Q0{i off n:Nat}{l:List ah}(p:l.length=n):∀{ws:List SW} {s:aY},i<s.length->(∀ob,SW.o i ob∉ws)->(∀j v,SW.c i j v∈ws->j<off\/off+n<=j)->Ki (apps ws s) (i,off,l)->Ki s (i,off,l)
 |[],_,_,_,_,h=>h
 |u::ws,s,hi,r,m,h=>by
  have t:=Q0 p (ws:=ws) (s:=u.app s) (aC2 hi (FM u s)) (λob w=>r ob az9) (λj v w=>m j v az9) h;obtain⟨g,h1,a,f⟩:=t;cases u with
  |n ob=>
   simp[SW.app]at h1;rw[aDj hi]at h1;exact⟨g,h1,a,f⟩
  |o j ob=>
   simp[SW.app]at h1;by_cases d:j=i
   .simp_all
   .rw[aDb d]at h1;exact⟨g,h1,a,f⟩
  |c j k v=>
   simp[SW.app]at h1;split at h1
   .rename_i cs au;by_cases d:j=i
    .subst d;rw[aDf hi]at h1;simp at h1;subst h1;have z:=m k v az7;simp at a;have e:s[j]?=some (.box cs):=az8;refine⟨cs,e,a,?_⟩;grind[QV]
    .rw[aDb d]at h1;exact⟨g,h1,a,f⟩
   .exact⟨g,h1,a,f⟩
theorem Q5{i:Nat}{ob:cc}:∀{ws:List SW} {s:aY},i<s.length->(∀ob,SW.o i ob∉ws)->(∀j v,SW.c i j v∉ws)->(apps ws s)[i]?=some ob->s[i]?=some ob
 |[],_,_,_,_,h=>h
 |u::ws,s,hi,g,f,h=>by
  have h1:=Q5 (ws:=ws) (s:=u.app s) (aC2 hi (FM u s)) (λob d=>g ob (by simp[d])) (λj v d=>f j v (by simp[d])) h;cases u with
  |n ob=>
   simp[SW.app]at h1;rwa [aDj hi]at h1
  |o j ob=>
   simp[SW.app]at h1;by_cases a:j=i
   .subst a;exact absurd az7 (g ob)
   .rwa [aDb a]at h1
  |c j k v=>
   simp[SW.app]at h1;split at h1
   .by_cases a:j=i
    .subst a;exact absurd az7 (f k v)
    .rwa [aDb a]at h1
   .exact h1
theorem ajw:∀(ws:List SW) (s:aY),s.length<=(apps ws s).length
 |[],_=>aCw _
 |u::ws,s=>aDn (FM u s) (ajw ws _)
theorem Kj:∀{ws:List SW} {s:aY},(∀ob,SW.n ob∉ws)->(apps ws s).length=s.length
 |[],_,_=>rfl
 |u::ws,s,h=>by
  have:=Kj (ws:=ws) (s:=u.app s) λob a=>h ob (by simp[a]);show(apps ws (u.app s)).length=_;rw[this];cases u with
  |n ob=>exact absurd az7 (h ob)
  |o j ob=>simp[SW.app]
  |c j k v=>simp[SW.app];split<;>simp
theorem ajx{X Y:iF}(h:∀u,u∈Y.ws->u.safe X)(au:FO X Y)(B:∀u,u∈Y.ws->u.at Y){s:aY}(t:jk Y s)(k:jk X (apps Y.ws s)):jk X s:=by
 have p:∀{i:Nat},(∀n,Y.len=some n->i<n)->i<(apps Y.ws s).length->i<s.length:=by
  intro i h1 g;cases d:Y.len with
  |none=>
   rwa [Kj (λc a=>(B _ a) d)]at g
  |some n=>grind[jk.len]
 refine⟨λq aS=> ?_,λq aS=> ?_,λn o=> ?_⟩
 .have h1:=k.rd q aS;have m:q.1<s.length:=by
   obtain⟨r,g,_⟩:=h1;exact p (λn d=>(au.len n d).1 q aS) (aDA.1 g).1
  by_cases f:∃c,SW.o q.1 c∈Y.ws
  .obtain⟨c,f⟩:=f;obtain⟨r,z,A,w⟩:=au.old q.1 c f q aS rfl;exact⟨r,t.ro _ z,A,w⟩
  .obtain⟨i,C,l⟩:=q;exact Q0 rfl m (λc a=>f ⟨c,a⟩) (λj v a=>((h _ a).1 _ aS).resolve_left (λe=>e rfl)) h1
 .have h1:=k.ro q aS;have m:=p (λn d=>(au.len n d).2.1 q aS) (aDA.1 h1).1;exact Q5 m (λc a=>(h _ a).2 q aS rfl) (λj v a=>(h _ a).2 q aS rfl) h1
 .have h1:=k.len n o;rw[<-h1];refine(Kj λc a=> ?_).symm;have:=h _ a;rw[show X.len=none from this]at o;simp_all
mutual
theorem FQ:∀{a b:D},kU a b=true->a=b
 |.bool a,b,h=>aBJ
 |.int k a,b,h=>by cases b<;>simp[kU]at h;rw[h.1,h.2]
 |.str a,b,h=>aBJ
 |.list z a,b,h=>by
  cases b<;>simp[kU]at h;rw[h.1,CD h.2]
 |.agg a,b,h=>by
  cases b<;>simp[kU]at h;rw[CD h]
 |.dJ,b,h=>aBl
 |.h9,b,h=>aBl
 |.lL,b,h=>aBl
 |.iK,b,h=>aBl
 |.fn a,b,h=>aBJ
 |.e2 a n,b,h=>by
  cases b<;>simp[kU]at h;rw[CD h.1,h.2]
 |.iface t x,b,h=>by
  cases b<;>simp[kU]at h;rw[h.1,FQ h.2]
 |.lM a c,b,h=>by cases b<;>simp[kU]at h
 |.ix,b,h=>by cases b<;>simp[kU]at h
theorem CD:∀{a b:List D},tM a b=true->a=b
 |[],[],_=>rfl
 |[],_::_,h=>by simp[tM]at h
 |_::_,[],h=>by simp[tM]at h
 |x::a,y::b,h=>by
  simp only[tM,aCx]at h;rw[FQ h.1,CD h.2]
end
theorem Kk{a b:ah}(h:EH a b=true):a=b:=by
 cases a<;>cases b<;>simp[EH]at h
 .rw[FQ h]
 .rw[h.1,CD h.2]
 all_goals simp_all
theorem Q6:∀{a b:List ah},zu a b=true->a=b
 |[],[],_=>rfl
 |[],_::_,h=>by grind[zu]
 |_::_,[],h=>by grind[zu]
 |x::a,y::b,h=>by
  simp[zu,aCx]at h;rw[Kk h.1,Q6 h.2]
structure kI(E:iF)(f:ju):Prop where
 rd:∀q,q∈E.rd->(q.1,q.2.1,q.2.2.length)∈f.r++f.w\/(q.1,0,big)∈f.r++f.w
 ro:∀q,q∈E.ro->(q.1,0,big)∈f.r++f.w\/∃ids fr s,f.c=some (ids,fr,s)/\q.1∈ids
 len:∀n,E.len=some n->f.a=some n
 k:E.k=f.k
 FR:∀i off v,SW.c i off v∈E.ws->∃o n,(i,o,n)∈f.w/\(n=big\/o<=off/\off<o+n)
 xX:∀i ob,SW.o i ob∈E.ws->(i,0,big)∈f.w\/∃ids fr s,f.c=some (ids,fr,s)/\i∈ids/\s.getD i .dead=ob/\(i,fr.getD i .dead)∈E.ro
 wn:∀ob,SW.n ob∈E.ws->f.a≠none
 ca:f.c≠none->f.a≠none
 v:f.v.length=1->f.r.length=1->f.w=[]->f.c=none->(∀q,q∈E.rd->q∈f.v)/\E.ro=[]
theorem rA{a b:List (Nat×Nat×Nat)}(h:mU a b=true){x y:Nat×Nat×Nat}(d:x∈a)(c:y∈b):x.1≠y.1\/(x.2.2≠big/\y.2.2≠big/\(x.2.1+x.2.2<=y.2.1\/y.2.1+y.2.2<=x.2.1)):=by
 have:=aCQ.1 (aCQ.1 h x d) y c;simp at this;rcases this with h|⟨⟨h1,f⟩,g⟩
 .left;intro e;simp_all
 .right;refine⟨λe=>az8,λe=>az8,?_⟩;simp_all
theorem ajy{a b:List (Nat×Nat×Nat)}(h:mU a b=true):mU b a=true:=by
 unfold mU;rw[aCQ];intro y c;rw[aCQ];intro x d;have:=aCQ.1 (aCQ.1 h x d) y c;simp at this⊢;rcases this with h|⟨⟨h1,f⟩,g⟩
 .grind[Nat.eq_of_beq_eq_true]
 grind
theorem CF{f g:ju}{ids:List Nat}{m s:aY}(h:pO f g=true)(a:f.c=some (ids,m,s)):
  g.c=none/\(∀c,c∈g.w->c.1∉ids)/\((∀c,c∈g.r->c.1∉ids)\/(g.w=[]/\g.r.length=1/\g.v.length=1/\∀c,c∈g.v->c.1∉ids\/(sameAt m c=true/\sameAt s c=true))):=by
 unfold pO at h;rw[a]at h;simp only[aCx,aCQ,aDY,aCX,Option.isNone_iff_eq_none,List.isEmpty_iff]at h;obtain⟨⟨h1,k⟩,d⟩:=h;have n:∀{i:Nat},du i ids=false->i∉ids:=by
  intro i t hm;have:du i ids=true:=by
   clear a k d t;induction ids with
   |nil=>simp_all
   |cons j l ih=>
    simp[du];rcases aCJ.1 hm with rfl|hm
    all_goals simp_all
  simp_all
 refine⟨h1,λc a=>n (k c a),?_⟩;rcases d with d|⟨⟨⟨d,o⟩,p⟩,r⟩
 .grind
 .exact .inr ⟨d,aCG p,aCG r,λc a=>(o c a).imp n id⟩
theorem Q7{s:aY}{q:Nat×Nat×List ah}(h:sameAt s q=true):∃cs,s.getD q.1 .dead=.box cs/\q.2.1+q.2.2.length<=cs.length/\(cs.drop q.2.1).take q.2.2.length=q.2.2:=by
 unfold sameAt at h;split at h
 .rename_i cs e;simp only[aCx]at h;exact⟨cs,e,aCM h.1,(Q6 h.2).symm⟩
 simp_all
theorem Kl{f g:ju}(h:sf f g=true){n:Nat}(a:f.a=some n):g.a=none/\(∀c,c∈g.r++g.w->c.1<n):=by
 unfold sf at h;rw[a]at h;simp at h;grind
theorem Q8{X Y:iF}{a f:ju}(k:kI X a)(r:kI Y f)(g:mU f.w (a.r++a.w)=true)(L:pO a f=true)(H:pO f a=true)(B:sf f a=true):∀u,u∈Y.ws->u.safe X:=by
 have w:∀(i:Nat),(∃o n,(i,o,n)∈f.w)->∀q,q∈X.ro->q.1≠i:=by
  rintro i ⟨o,n,d⟩ q aS;rcases k.ro q aS with h|⟨ids,C,s,h1,t⟩
  .rcases rA g d h with h|⟨_,h,_⟩
   all_goals grind
  grind[CF]
 intro u p;cases u with
 |c i off v=>
  obtain⟨o,n,d,N⟩:=r.FR i off v p;refine⟨λq aS=> ?_,w i ⟨o,n,d⟩⟩;rcases k.rd q aS with h|h
  .rcases rA g d h with h|⟨h1,t,A⟩
   all_goals grind
  .rcases rA g d h with h|⟨_,h,_⟩
   all_goals grind
 |o i ob=>
  rcases r.xX i ob p with d|⟨ids,C,s,h1,t,A,K⟩
  .refine⟨λq aS=>.inl ?_,w i ⟨0,big,d⟩⟩;rcases k.rd q aS with h|h
   .rcases rA g d h with h|⟨h,_⟩
    all_goals grind
   .rcases rA g d h with h|⟨h,_⟩
    all_goals grind
  .obtain⟨E,P,l⟩:=CF H h1;have M:∀j o n,(j,o,n)∈a.r++a.w->(∀c,c∈a.r->c.1∉ids)->j∉ids:=az9;rcases l with l|⟨l,F,G,J⟩
   .refine⟨λq aS=>.inl ?_,λq aS=> ?_⟩
    .rintro rfl;rcases k.rd q aS with h|h
     all_goals grind
    grind[kI.ro]
   .obtain⟨Q,R⟩:=k.v G F l E;refine⟨λq aS=> ?_,λq aS=>az8⟩;grind[Q7]
 |n ob=>
  show X.len=none;have h1:=r.wn ob p;cases aE:X.len with
  |none=>rfl
  |some n=>
   cases z:f.a with
   |none=>simp_all
   |some m=>
    have:=(Kl B z).1;grind[kI.len]
theorem Q9{X Y:iF}{a d:ju}(c:kI X a)(j:kI Y d)(g:mU d.w (a.r++a.w)=true)(w:pO d a=true)(o:sf d a=true):FO X Y:=by
 refine⟨λi t p q aS F=> ?_,λn k=> ?_⟩
 .rcases j.xX i t p with hw|⟨ids,C,s,h1,l,B,A⟩
  .rcases c.rd q aS with h|h
   .rcases rA g hw h with h|⟨h,_⟩
    all_goals simp_all
   .rcases rA g hw h with h|⟨h,_⟩
    all_goals simp_all
  .obtain⟨r,E,f⟩:=CF w h1;rcases f with f|⟨f,u,v,z⟩
   .rcases c.rd q aS with h|h
    all_goals grind
   .obtain⟨G,_⟩:=c.v v u f r;grind[Q7]
 .obtain⟨h1,l⟩:=Kl o (j.len n k);refine⟨λq aS=> ?_,λq aS=> ?_,?_⟩
  .rcases c.rd q aS with h|h
   all_goals grind
  .rcases c.ro q aS with h|⟨_,_,_,h,_⟩
   all_goals grind[kI.ca]
  .cases ai:X.len with
   |none=>rfl
   |some m=>grind[kI.len]
theorem ajz{X Y:iF}{a d:ju}(r:kI X a)(k:kI Y d)(M:mU a.w (d.r++d.w)=true)(L:mU d.w a.r=true)(B:pO a d=true)(N:pO d a=true)(H:sf a d=true)(Q:sf d a=true):FP X Y:=by
 have z:mU a.w d.w=true:=by
  unfold mU at M⊢;grind
 have P:mU d.w (a.r++a.w)=true:=by
  unfold mU at L⊢;rw[aCQ]at L⊢;intro y R;rw[aF4,aCx];exact⟨L y R,aCQ.1 (ajy z) y R⟩
 refine⟨Q8 r k P B N Q,Q8 k r M N B H,?_,Q9 r k P N Q,Q9 k r M B H⟩;intro ad K v t;have ao:∀{f g:ju} {u:List Nat} {w s:aY},pO f g=true->f.c=some (u,w,s)->∀{i o n:Nat},i∈u->(i,o,n)∈g.w->False:=by
  intro f g u w s h h1 i o n hi l;exact(CF h h1).2.1 _ l hi
 cases ad with
 |c i off x=>
  obtain⟨o,n,l,J⟩:=r.FR i off x K;cases v with
  |c j E C=>
   obtain⟨o',n',p,A⟩:=k.FR j E C t;rcases rA z l p with h|⟨h1,G,av⟩
   .exact .inl h
   .rcases J with J|J
    .simp_all
    .rcases A with A|A
     .simp_all
     .right;grind
  |o j ob=>
   rcases k.xX j ob t with p|⟨u,w,s,h1,G,_⟩
   .rcases rA z l p with h|⟨_,h,_⟩
    .exact h
    simp_all
   .rintro rfl;grind
  |n ob=>trivial
 |o i F=>
  cases v with
  |c j E C=>
   obtain⟨o',n',p,A⟩:=k.FR j E C t;rcases r.xX i F K with l|⟨u,w,s,h1,G,_⟩
   .rcases rA z l p with h|⟨h,_⟩
    .exact h
    simp_all
   .rintro rfl;grind
  |o j ob=>
   rcases r.xX i F K with l|⟨u,w,s,h1,G,_⟩
   .rcases k.xX j ob t with p|⟨U,S,s',Z,V,_⟩
    .rcases rA z l p with h|⟨h,_⟩
     .exact h
     simp_all
    .rintro rfl;grind
   .rcases k.xX j ob t with p|⟨U,S,s',Z,V,_⟩
    .rintro rfl;grind
    .have:=(CF B h1).1;simp_all
  |n ob=>trivial
 |n F=>
  cases v with
  |c j E C=>trivial
  |o j ob=>trivial
  |n ob=>
   cases ai:a.a with
   |none=>grind[kI.wn]
   |some m=>exact absurd (Kl H ai).1 (k.wn ob t)
def aFu:=@List.set_set
theorem aAU(h:p:=by simp[I.ws]):p:=h
theorem aBm(h:p:=by grind[List.drop_eq_getElem_cons]):p:=h
section
variable {P:Program}{gl:Nat->List D}
def iV(i:I)(E:iF)(a c:ag):ag:=
 ⟨λt=>if t∈i.hw\/t∈E.k then c.aR t else a.aR t,λt=>if t∈i.gS then c.bM t else a.bM t,apps E.ws a.s⟩
structure qb(P:Program)(gl:Nat->List D)(i:I)(st aU:ag)(E:iF):Prop where
 aR:∀t,t∉i.hw->t∉E.k->aU.aR t=st.aR t
 bM:∀t,t∉i.gS->aU.bM t=st.bM t
 s:aU.s=apps E.ws st.s
 aw:jk E st.s
 k:∀t,t∈E.k->t∈i.kl
 at_:∀u,u∈E.ws->u.at E
 r0:i.rs=false->E.rd=[]/\E.ro=[]/\E.len=none
 w0:i.ws=false->E.ws=[]/\E.len=none
 pf:∀(st2:ag) (bO:ag->Prop),(∀t,t∈i.rd->st2.aR t=st.aR t)->(∀t,t∈i.oX->st2.bM t=st.bM t)->jk E st2.s->bO (iV i E st2 aU)->step (bA P gl) gl i st2 bO
def mz(P:Program)(gl:Nat->List D)(i:I):Prop:=∀(c:ag) (K:ag->Prop),step (bA P gl) gl i c K->∃a E,K a/\qb P gl i c a E/\kI E (hg gl i c a)
theorem uH{i:I}{E:iF}{f g d:ag}(h1:∀t,(if t∈i.hw\/t∈E.k then g.aR t else f.aR t)=d.aR t)(j:∀t,(if t∈i.gS then g.bM t else f.bM t)=d.bM t)(k:apps E.ws f.s=d.s):
  iV i E f g=d:=by
 obtain⟨a,b,c⟩:=d;simp[iV,ag.mk.injEq];simp_all
theorem Af:kI {} {}:=⟨az7,az7,az7,rfl,az7,az7,az7,az7,az7⟩
theorem ajC{i:I}(l:sl i=false)(j:i.rs=false)(u:i.kl=[])(s:∀st a,hg gl i st a={}):mz P gl i:=by
 intro st K h;obtain⟨a,h1,o,d,f,g⟩:=ajs l j st K h;have hw:i.wr=i.hw:=by grind[I.wr]
 have c:i.ws=false:=by
  cases c:i.ws with
  |false=>rfl
  |true=>
   have:i.rs=true:=by cases i<;>simp[I.ws,I.rs]at c⊢
   simp_all
 refine⟨a,{},h1,⟨λt r _=>o t az8,d,f c,⟨az7,az7,az7⟩,az7,az7,λ_=>⟨rfl,rfl,rfl⟩,λ_=>⟨rfl,rfl⟩,?_⟩,by grind[Af]⟩;intro p n m k _ v;refine g p n ⟨m,k,az8⟩ ?_;grind[mix,iV,apps]
theorem kJ{i:I}{st a:ag}(h:∀t,t∈i.rd->a.aR t=st.aR t){x:O}(d:∀t,t∈x.slots->t∈i.rd):aG.aO gl a x=aG.aO gl st x:=by
 cases x with
 |t n=>exact h n (d n (by simp[O.slots]))
 |c v=>rfl
 |g n=>rfl
theorem qb.sZ{i:I}{d:Nat}{v:ah}{E:iF}{st:ag}(r:i.rs=true)(k:i.ws=false->E.ws=[]/\E.len=none)(p:i.hw=[d])(au:i.gS=[])(n:E.k=[])(aw:jk E st.s)(j:∀u,u∈E.ws->u.at E)
  (l:∀(a:ag) (c:ag->Prop),(∀t,t∈i.rd->a.aR t=st.aR t)->jk E a.s->c ({a with s:=apps E.ws a.s}.set d v)->step (bA P gl) gl i a c):
  qb P gl i st ({st with s:=apps E.ws st.s}.set d v) E:=by
 refine⟨λt m _=> ?_,λt _=>rfl,rfl,aw,az8,j,λh=>az8,k,λa c g _ f o=>l a c g f ?_⟩
 .simp_all[ag.set,dm]
 .have:iV i E a ({st with s:=apps E.ws st.s}.set d v)={a with s:=apps E.ws a.s}.set d v:=by
   refine uH (λt=> ?_) (λt=>by grind[ag.set]) rfl;simp_all[ag.set,dm]
  simp_all
theorem Kn{s:aY}{i:Nat}{ob:cc}(h:s.getD i .dead=ob)(a:ob≠.dead):s[i]?=some ob:=az9
theorem rB{s:aY}{i:Nat}{ob:cc}(h:s[i]?=some ob):s.getD i .dead=ob:=az8
theorem ajD{cs a:List ah}{off n:Nat}{aw:Bool}(h:(a.drop off).take n=(cs.drop off).take n)(c:(aw||Nat.beq n 1)=true)(h1:off+n<=cs.length)(f:off+n<=a.length):valOf a off n aw=valOf cs off n aw:=by
 unfold valOf;cases aw with
 |true=>simp_all
 |false=>
  obtain rfl:n=1:=aCG c;have g:(cs.drop off).take 1=[cs.getD off .undef]:=aBm;have d:(a.drop off).take 1=[a.getD off .undef]:=aBm;simp_all
theorem ajE{d n:Nat}{aw:Bool}{x:O}:mz P gl (.aE d x n aw):=by
 intro z K h;simp only[step]at h;split at h
 .rename_i i off c;split at h
  .rename_i cs k;obtain⟨a,h⟩:=h;simp only[aCx]at a;have r:=aCM a.1;have s:((cs.drop off).take n).length=n:=az9;refine⟨_,{rd:=[(i,off,(cs.drop off).take n)]},h,.sZ (E:={rd:=[(i,off,(cs.drop off).take n)]}) rfl (λ_=>⟨rfl,rfl⟩) rfl rfl rfl ⟨?_,az7,az7⟩ az7 λv p g l j=> ?_,?_⟩
   .intro q aS;simp at aS;subst aS;exact⟨cs,Kn k az7,az8,az7⟩
   .obtain⟨w,f1,m,o⟩:=l.rd _ (aCS.2 rfl);simp[s]at f1 m o;have u:=ajD o a.2 r m;simp only[step,kJ (gl:=gl) g (x:=x) (λt f=>f),c,rB f1,iE];refine⟨az8,?_⟩;rw[u];exact j
   .simp only[hg,c,k];refine⟨?_,az7,az7,rfl,az7,az7,az7,az7,λ_ _ _ _=>⟨λq aS=>aS,rfl⟩⟩;simp_all
  .exact h.elim
 .rename_i cs off c;obtain⟨a,h⟩:=h;refine⟨_,{},h,.sZ (E:={}) rfl (λ_=>⟨rfl,rfl⟩) rfl rfl rfl ⟨az7,az7,az7⟩ az7 λv p g l j=> ?_,?_⟩
  .simp only[step,kJ (gl:=gl) g (x:=x) (λt f=>f),c,iE];exact⟨a,j⟩
  grind[hg,Af]
 .exact h.elim
theorem ajF{d:Nat}{x:O}:mz P gl (.aK d x):=by
 intro r K h;simp[step]at h;split at h
 .rename_i i off f;split at h
  .rename_i cs j;obtain⟨s,h⟩:=h;have A:off<cs.length:=az8;have w:(cs.drop off).take 1=[cs.getD off .undef]:=aBm;have J:∀(c:aY) (a:List ah),c[i]?=some (.box a)->apps [SW.c i off .undef] c=c.set i (.box (a.set off .undef)):=by
    grind[apps,SW.app]
   have p:jk {rd:=[(i,off,[cs.getD off .undef])],ws:=[SW.c i off .undef]} r.s:=by
    refine⟨?_,az7,az7⟩;intro q aS;simp only[aCS]at aS;subst aS;exact⟨cs,Kn j az7,az9,az6⟩
   refine⟨_,{rd:=[(i,off,[cs.getD off .undef])],ws:=[.c i off .undef]},?_,.sZ (v:=cs.getD off .undef) (E:={rd:=[(i,off,[cs.getD off .undef])],ws:=[.c i off .undef]}) rfl aAU rfl rfl rfl p ?_ λH B l m F=> ?_,?_⟩
   .grind
   .intro u g;simp at g;subst g;exact⟨_,aCS.2 rfl,rfl,aCw _,az7⟩
   .obtain⟨a,f1,n,o⟩:=m.rd _ (aCS.2 rfl);simp at f1 n o;have C:off<a.length:=az6;have z:(a.drop off).take 1=[a.getD off .undef]:=aBm;have G:a.getD off .undef=cs.getD off .undef:=az8;simp[step,kJ (gl:=gl) l (x:=x) (λt k=>k),f,rB f1,iE];simp_all
   .simp[hg,f];refine⟨?_,az7,az7,rfl,?_,az7,az7,az7,az7⟩;all_goals grind
  .exact h.elim
 .exact h.elim
def pg(i:Nat):Nat->List ah->List SW
 |_,[]=>[]
 |off,v::l=>.c i off v::pg i (off+1) l
theorem Ko{i:Nat}:∀{l:List ah} {off:Nat} {u:SW},u∈pg i off l->∃a v,u=.c i a v/\off<=a/\a<off+l.length
 |[],_,_,h=>by grind[pg]
 |v::l,off,u,h=>by
  simp[pg,aCJ]at h;rcases h with rfl|h
  .simp
  .obtain⟨a,c,h1,d,f⟩:=Ko h;exact⟨a,c,h1,az6,aA9⟩
theorem Kp{i:Nat}:∀{l:List ah} {off:Nat} {s:aY} {cs:List ah},s[i]?=some (.box cs)->apps (pg i off l) s=s.set i (.box (putCells cs off l))
 |[],off,s,cs,h=>by
  grind[pg,apps,putCells,Ji]
 |v::l,off,s,cs,h=>by
  have a:=(aDA.1 h).1;simp only[pg,apps,putCells,SW.app,rB h];rw[Kp (cs:=cs.set off v) (by rw[aDf a]),aFu]
theorem aAV(h:p:=by simp[hg]):p:=h
theorem FV{st:ag}{x:O}{t:Nat}(h:t∈lr st x):t∈x.slots:=by
 cases x with
 |t s=>
  grind[lr,O.slots]
 |c v=>grind[lr]
 |g n=>grind[lr]
theorem FW{st:ag}{x:O}{t:Nat}(h:t∉lr st x):(kill st x).aR t=st.aR t:=by
 cases x with
 |t s=>
  simp[lr,kill]at h⊢;split at h;all_goals simp_all[ag.set,dm]
 |c v=>rfl
 |g n=>rfl
theorem Kq{st a:ag}{x:O}{t:Nat}(h:∀t,t∈x.slots->a.aR t=st.aR t):(if t∈lr st x then(kill st x).aR t else a.aR t)=(kill a x).aR t:=by
 have d:lr a x=lr st x:=by
  cases x with
  |t s=>grind[lr,O.slots]
  |c v=>rfl
  |g n=>rfl
 grind[QQ,FV,FW]
theorem ajG{d:Nat}{x:O}:mz P gl (.e3 d x):=by
 intro c K h;refine⟨_,{k:=lr c x},h,⟨λt a n=> ?_,λt _=>by simp[ag.set,sV],by simp[ag.set,vW,apps],⟨az7,az7,az7⟩,λt a=>FV a,az7,λ_=>⟨rfl,rfl,rfl⟩,λ_=>⟨rfl,rfl⟩,λf m g l _ j=> ?_⟩,?_⟩
 .simp_all[I.hw,I.dst,ag.set,dm,FW]
 .have e:=kJ (gl:=gl) g (x:=x) (λt a=>a);have:iV (.e3 d x) {k:=lr c x} f ((kill c x).set d (aO gl c x))=(kill f x).set d (aO gl f x):=by
   refine uH (λt=> ?_) (λt=>by simp[ag.set,sV,I.gS]) (by simp[ag.set,vW,apps]);simp[I.hw,I.dst,aD5,aDI,aCS,ag.set,dm,e];by_cases h1:t=d
   .grind
   .simp[h1,false_or,aCW];exact Kq g
  rw[this]at j;exact j
 .exact⟨az7,az7,az7,rfl,az7,az7,az7,aAV,az7⟩
theorem ajH{t off n:Nat}{x y:O}:mz P gl (.ls x t off y n):=by
 intro c K h;simp[step]at h;split at h
 .rename_i z w cs r o;obtain⟨p,h⟩:=h;refine⟨_,{k:=lr c y},h,⟨λu f A=> ?_,λu f=> ?_,by simp[ag.eg,vW,apps],⟨az7,az7,az7⟩,λt a=>FV a,az7,λ_=>⟨rfl,rfl,rfl⟩,λ_=>⟨rfl,rfl⟩,λj v d m _ g=> ?_⟩,?_⟩
  .simp_all[ag.eg,FW]
  .simp_all[I.gS,ag.eg,dm,sV]
  .have e:=m t aAT;have s:=kJ (gl:=gl) d (x:=x) (λt a=>aCN _ a);have l:=kJ (gl:=gl) d (x:=y) (λt a=>aC7 _ a);have:iV (.ls x t off y n) {k:=lr c y} j ((kill c y).eg t (putCells cs off (cellsOf (aO gl c y))))=(kill j y).eg t (putCells cs off (cellsOf (aO gl c y))):=by
    refine uH (λu=> ?_) (λu=> ?_) (by simp[ag.eg,vW,apps])
    .simp[I.hw,I.dst,Option.toList_none,aDI,aC5,false_or,ag.eg];exact Kq λu f=>d u (aC7 _ f)
    simp_all[I.gS,ag.eg,dm,sV]
   rw[this]at g;simp[step,e,s,l,r,o];exact⟨p,g⟩
  .exact⟨az7,az7,az7,rfl,az7,az7,az7,aAV,az7⟩
 .exact h.elim
theorem ajI{n:Nat}{x y:O}:mz P gl (.hs x y n):=by
 intro a K h;simp[step]at h;split at h
 .rename_i i off l;split at h
  .rename_i cs r;obtain⟨w,h⟩:=h;have g:=w;simp only[aCx]at g;have F:=aCG g.1.1;have M:=aCM g.1.2;have N:((cs.drop off).take n).length=n:=az9;refine⟨_,{rd:=[(i,off,(cs.drop off).take n)],ws:=pg i off (cellsOf (aO gl a y)),k:=lr a y},h,⟨λu d B=>FW B,λu d=>by simp[sV],?_,⟨?_,az7,az7⟩,λt c=>FV c,?_,by simp[I.rs],aAU,λj G f C p m=> ?_⟩,?_⟩
   .grind[Kp]
   .intro q aS;simp at aS;subst aS;exact⟨cs,Kn r az7,az8,az7⟩
   .intro u d;obtain⟨H,v,rfl,h1,E⟩:=Ko d;refine⟨_,aCS.2 rfl,rfl,h1,?_⟩;simp_all
   .obtain⟨A,f1,J,L⟩:=p.rd _ (aCS.2 rfl);have z:=kJ (gl:=gl) f (x:=x) (λt c=>aCN _ c);have o:=kJ (gl:=gl) f (x:=y) (λt c=>aC7 _ c);have:iV (.hs x y n) {rd:=[(i,off,(cs.drop off).take n)],ws:=pg i off (cellsOf (aO gl a y)),k:=lr a y} j {kill a y with s:=a.s.set i (.box (putCells cs off (cellsOf (aO gl a y))))}={kill j y with s:=j.s.set i (.box (putCells A off (cellsOf (aO gl a y))))}:=by
     refine uH (λu=> ?_) (λu=>by simp[I.gS,sV]) (Kp f1);simp[I.hw,I.dst,Option.toList_none,aDI,aC5,false_or];exact Kq λu d=>f u (aC7 _ d)
    rw[this]at m;simp only[step,z,o,l,rB f1];refine⟨?_,m⟩;simp_all
   .simp[hg,l];refine⟨?_,az7,az7,rfl,?_,?_,?_,az7,az7⟩;all_goals grind[Ko]
  .exact h.elim
 .exact h.elim
theorem axy{a b:ah}(h:a=b):hI a=hI b:=by rw[h]
theorem ajJ{d:Nat}{aw u:Bool}{ks:List Nat}{m k:O}{z:ah}:mz P gl (.aH d aw ks m k z u):=by
 intro o K h;have c:∀{l:ag},(∀t,t∈(I.aH d aw ks m k z u).rd->l.aR t=o.aR t)->aO gl l m=aO gl o m/\aO gl l k=aO gl o k:=λe=>⟨kJ (gl:=gl) e (λt w=>aCN _ w),kJ (gl:=gl) e (λt w=>aC7 _ w)⟩;have C:(∀i,aO gl o m≠.map i)->∀r,kI {} (hg gl (.aH d aw ks m k z u) o r):=by
  grind[hg,Af]
 simp[step]at h;split at h
 .exact h.elim
 .rename_i J bT;obtain⟨p,h⟩:=h;split at h
  .rename_i g;refine⟨_,{},h,.sZ (E:={}) rfl (λ_=>⟨rfl,rfl⟩) rfl rfl rfl ⟨az7,az7,az7⟩ az7 λl s a _ f=> ?_,C az8 _⟩;simp[step,(c a).1,(c a).2,bT,g];exact⟨p,f⟩
  .rename_i kl L g;split at h
   .rename_i n;refine⟨_,{},h,.sZ (E:={}) rfl (λ_=>⟨rfl,rfl⟩) rfl rfl rfl ⟨az7,az7,az7⟩ az7 λl s a _ f=> ?_,C az8 _⟩;simp[step,(c a).1,(c a).2,bT,g,n];exact⟨p,f⟩
   .rename_i j n;split at h
    .rename_i v A;refine⟨_,{},h,.sZ (E:={}) rfl (λ_=>⟨rfl,rfl⟩) rfl rfl rfl ⟨az7,az7,az7⟩ az7 λl s a _ f=> ?_,C az8 _⟩;simp[step,(c a).1,(c a).2,bT,g,n,A];exact⟨p,f⟩
    .exact h.elim
   .exact h.elim
  .rename_i i g;split at h
   .rename_i es H;have G:jk {ro:=[(i,.map es)]} o.s:=by
     refine⟨az7,?_,az7⟩;grind
    have F:∀r,kI {ro:=[(i,.map es)]} (hg gl (.aH d aw ks m k z u) o r):=by
     intro r;simp[hg,g];refine⟨az7,?_,az7,rfl,az7,az7,az7,az7,az7⟩;simp
    split at h
    .rename_i n;refine⟨_,{ro:=[(i,.map es)]},h,.sZ (E:={ro:=[(i,.map es)]}) rfl (λ_=>⟨rfl,rfl⟩) rfl rfl rfl G az7 λl s a B f=> ?_,F _⟩;have:=rB (B.ro _ (aCS.2 rfl));simp only[step,(c a).1,(c a).2,bT,g,this,n];exact⟨p,f⟩
    .rename_i j n;split at h
     .rename_i v A;refine⟨_,{ro:=[(i,.map es)]},h,.sZ (E:={ro:=[(i,.map es)]}) rfl (λ_=>⟨rfl,rfl⟩) rfl rfl rfl G az7 λl s a B f=> ?_,F _⟩;have:=rB (B.ro _ (aCS.2 rfl));simp only[step,(c a).1,(c a).2,bT,g,this,n,A];exact⟨p,f⟩
     .exact h.elim
    .exact h.elim
   .exact h.elim
  .exact h.elim
theorem qb.ajK{i:I}{E:iF}{st:ag}(p:i.rs=true)(o:i.ws=true)(n:i.dst=none/\i.hw=[])(au:i.gS=[])(l:E.k=[])(aw:jk E st.s)(g:∀u,u∈E.ws->u.at E)
  (j:∀(a:ag) (c:ag->Prop),(∀t,t∈i.rd->a.aR t=st.aR t)->jk E a.s->c {a with s:=apps E.ws a.s}->step (bA P gl) gl i a c):
  qb P gl i st {st with s:=apps E.ws st.s} E:=by
 refine⟨λt k _=>rfl,λt _=>rfl,rfl,aw,az8,g,λh=>az8,λh=>az8,λa c f _ d m=>j a c f d ?_⟩;simp_all[iV]
theorem ajL{aw:Bool}{ks:List Nat}{m k x:O}:mz P gl (.oU aw ks m k x):=by
 intro d K h;simp[step]at h;split at h
 .rename_i i c g bT;split at h
  .rename_i es z;split at h
   .rename_i j o;obtain⟨n,h⟩:=h;have C:∀{s:aY},apps [SW.o i (.map (nI es c (cX (aO gl d x)) j))] s=s.set i (.map (nI es c (cX (aO gl d x)) j)):=rfl;refine⟨_,{ro:=[(i,.map es)],ws:=[.o i (.map (nI es c (cX (aO gl d x)) j))]},h,.ajK (E:={ro:=[(i,.map es)],ws:=[.o i (.map (nI es c (cX (aO gl d x)) j))]}) rfl rfl ⟨rfl,rfl⟩ rfl rfl ⟨az7,?_,az7⟩ ?_ λB A f p w=> ?_,?_⟩
    .grind
    .intro u l;simp at l;subst l;exact⟨_,aCS.2 rfl,rfl⟩
    .have:=rB (p.ro _ (aCS.2 rfl));have f1:=kJ (gl:=gl) f (x:=m) (λt a=>aCN _ (aCN _ a));have r:=kJ (gl:=gl) f (x:=k) (λt a=>aCN _ (aC7 _ a));have v:=kJ (gl:=gl) f (x:=x) (λt a=>aC7 _ a);simp only[step,f1,r,v,bT,g,this,o];exact⟨n,w⟩
    .simp[hg,g];refine⟨az7,?_,az7,rfl,az7,?_,az7,az7,az7⟩;all_goals simp
   .exact h.elim
  .exact h.elim
 .exact h.elim
def aER:=@List.map_congr_left
theorem qb.uI{i:I}{U:(Nat->ah)->Nat->ah}{E:iF}{st:ag}(s:i.rs=true)(m:i.ws=false->E.ws=[]/\E.len=none)(au:i.gS=[])(p:E.k=[])
  (h1:∀(f:Nat->ah) t,t∉i.hw->U f t=f t) (o:∀f d t,t∈i.hw->(∀t,t∈i.rd->d t=f t)->U d t=U f t) (aw:jk E st.s) (l:∀u,u∈E.ws->u.at E)
  (n:∀(a:ag) (c:ag->Prop),(∀t,t∈i.rd->a.aR t=st.aR t)->jk E a.s->c ⟨U a.aR,a.bM,apps E.ws a.s⟩->step (bA P gl) gl i a c):
  qb P gl i st ⟨U st.aR,st.bM,apps E.ws st.s⟩ E:=by
 refine⟨λt g _=>h1 _ t g,λt _=>rfl,rfl,aw,az8,l,λh=>az8,m,λa c k _ j r=>n a c k j ?_⟩;have:iV i E a ⟨U st.aR,st.bM,apps E.ws st.s⟩=⟨U a.aR,a.bM,apps E.ws a.s⟩:=by
  refine uH (λt=> ?_) (λt=>az9) rfl;grind
 simp_all
theorem ajM{d sz:Nat}{xs:List O}:mz P gl (.sd d sz xs):=by
 intro a K h;obtain⟨f,h⟩:=h;refine⟨_,{len:=some a.s.length,ws:=[.n (.box (xs.map λx=>cellsOf (gT (aO gl a x))).flatten)]},h,.sZ (E:={len:=some a.s.length,ws:=[.n (.box (xs.map λx=>cellsOf (gT (aO gl a x))).flatten)]}) rfl aAU rfl rfl rfl ⟨az7,az7,λn l=>az8⟩ ?_ λr s j m o=> ?_,?_⟩
 .grind[SW.at]
 .have c:=m.len _ rfl;have p:(xs.map λx=>cellsOf (gT (aO gl r x)))=xs.map λx=>cellsOf (gT (aO gl a x)):=by
   refine aER λx k=> ?_;rw[kJ (gl:=gl) j (x:=x) λt g=>aD3.2 ⟨x,k,g⟩]
  simp only[step,p,c];exact⟨f,o⟩
 .refine⟨az7,az7,λn l=>by grind[hg],rfl,az7,az7,aAV,aAV,az7⟩
theorem ajN{d t e:Nat}:mz P gl (.ai d t e):=by
 intro a K h;refine⟨_,{len:=some a.s.length,ws:=[.n (.h' t e [])]},h,.sZ (E:={len:=some a.s.length,ws:=[.n (.h' t e [])]}) rfl aAU rfl rfl rfl ⟨az7,az7,λn f=>az8⟩ ?_ λm l k g j=> ?_,?_⟩
 .grind[SW.at]
 .have c:=g.len _ rfl;simp[step,c];exact j
 .refine⟨az7,az7,λn f=>by grind[hg],rfl,az7,az7,aAV,aAV,az7⟩
theorem axz{f:Nat->ah}{d:Option Nat}{v:ah}{t:Nat}:(match d with|some k=>cK f k v|none=>f) t=if d=some t then v else f t:=by
 cases d with
 |none=>simp
 |some k=>
  grind[dm]
theorem FX(aR:Nat->ah)(bM:Nat->Option (List ah))(s:aY)(d:Option Nat)(v:ah):(ag.mk aR bM s).dQ d v=⟨λt=>if d=some t then v else aR t,bM,s⟩:=by
 cases d with
 |none=>simp[ag.dQ]
 |some k=>
  simp[ag.dQ,ag.set,ag.mk.injEq,aE'];grind[dm]
theorem qb.Kr{i:I}{d:Option Nat}{v:ah}{E:iF}{st:ag}(o:i.rs=true)(m:i.ws=false->E.ws=[]/\E.len=none)(r:i.hw=d.toList)(au:i.gS=[])(k:E.k=[])(aw:jk E st.s)(l:∀u,u∈E.ws->u.at E)
  (n:∀(a:ag) (c:ag->Prop),(∀t,t∈i.rd->a.aR t=st.aR t)->jk E a.s->c ({a with s:=apps E.ws a.s}.dQ d v)->step (bA P gl) gl i a c):
  qb P gl i st ({st with s:=apps E.ws st.s}.dQ d v) E:=by
 rw[FX];refine .uI (U:=λf t=>if d=some t then v else f t) o m au k ?_ ?_ aw l λa c j g p=>n a c j g ?_;all_goals grind[FX]
theorem ajO{d:Option Nat}{x:O}{z:List ah}:mz P gl (.oV d x z):=by
 have l:(I.oV d x z).hw=d.toList:=by simp[I.hw,I.dst]
 intro s K h;simp[step]at h;split at h
 .rename_i i off len cap sz a;split at h
  .rename_i cs p;obtain⟨m,h⟩:=h;refine⟨_,{ro:=[(i,.box cs)],ws:=[.o i (.box (putCells cs off (List.replicate len z).flatten))]},h,.Kr (E:={ro:=[(i,.box cs)],ws:=[.o i (.box (putCells cs off (List.replicate len z).flatten))]}) rfl aAU l rfl rfl ⟨az7,?_,az7⟩ ?_ λo n f j g=> ?_,?_⟩
   .grind
   .intro u k;simp at k;subst k;exact⟨_,aCS.2 rfl,rfl⟩
   .have:=rB (j.ro _ (aCS.2 rfl));simp only[step,kJ (gl:=gl) f (x:=x) (λt c=>c),a,this];exact⟨m,g⟩
   .simp[hg,a];refine⟨az7,?_,az7,rfl,az7,?_,az7,az7,az7⟩;all_goals simp
  .exact h.elim
 .rename_i v r;split at h
  .rename_i sz a;refine⟨_,{},h,.Kr (E:={}) rfl az7 l rfl rfl ⟨az7,az7,az7⟩ az7 λo n f j g=> ?_,?_⟩
   .simp[step,kJ (gl:=gl) f (x:=x) (λt c=>c),a];exact g
   grind[hg,Af]
  .exact h.elim
def uJ:List Nat->List cc->List SW
 |[],l=>l.map .n
 |_,[]=>[]
 |i::ids,o::l=>.o i o::uJ ids l
theorem Rb:∀{l:List cc} {s:aY},apps (l.map .n) s=s++l
 |[],s=>by simp[apps]
 |o::l,s=>by simp[aDe,apps,SW.app];rw[Rb];simp
theorem Ks:∀{a:List Nat} {l:List cc} {s:aY},a.length<=l.length->apps (uJ a l) s=merge s a l
 |[],l,s,_=>by
  grind[uJ,Rb,merge]
 |_::_,[],_,h=>az9
 |i::a,o::l,s,h=>by
  simp[uJ,apps,SW.app,merge];exact Ks (by simpa using h)
theorem Kt:∀{a:List Nat} {l:List cc} {u:SW},u∈uJ a l->(∃i ob,u=.o i ob/\∃k:Nat,a[k]?=some i/\l[k]?=some ob)\/∃ob,u=.n ob
 |[],l,u,h=>by
  grind[uJ]
 |_::_,[],u,h=>by grind[uJ]
 |i::a,o::l,u,h=>by
  simp[uJ,aCJ]at h;rcases h with rfl|h
  .exact .inl ⟨i,o,rfl,0,az7,az7⟩
  .rcases Kt h with⟨j,ob,rfl,k,h1,c⟩|h
   .exact .inl ⟨j,ob,rfl,k+1,by simpa using h1,by simpa using c⟩
   .exact .inr h
theorem ajP{a:List Nat}(h:nodupB a=true){i k k':Nat}(h1:a[k]?=some i)(c:a[k']?=some i):k=k':=by
 rw[<-Cm h h1,<-Cm h c]
theorem ajQ{a:List Nat}{s:aY}{l:List cc}{i k:Nat}{ob:cc}(f:a.length<=l.length)(g:nodupB a=true)(d:∀j,j∈a->j<s.length)(h1:a[k]?=some i)(o:l[k]?=some ob):
  (merge s a l).getD i .dead=ob:=by
 have p:=d i (aC8 h1);have m:i<(merge s a l).length:=by grind[JI]
 rcases JJ f g d (aCB m)with⟨k',c,n⟩|⟨c,_⟩|⟨c,_⟩
 all_goals grind[ajP]
theorem Ku(s:aY):∀(n:Nat) (a acc:List Nat) (i:Nat),i∈acc->i∈reach s n a acc
 |0,_,acc,i,h=>by grind[reach]
 |_+1,[],acc,i,h=>by grind[reach]
 |n+1,j::a,acc,i,h=>by
  simp[reach];cases du j acc with
  |true=>exact Ku s n _ _ i h
  |false=>exact Ku s n _ _ i (aCN _ h)
theorem Kv{s d:aY}:∀(n:Nat) (a acc:List Nat),(∀i,i∈reach s n a acc->d.getD i .dead=s.getD i .dead)->reach d n a acc=reach s n a acc
 |0,_,acc,h=>rfl
 |_+1,[],acc,h=>rfl
 |n+1,j::a,acc,h=>by
  simp[reach]at h⊢;cases c:du j acc with
  |true=>
   rw[c]at h;exact Kv n _ _ h
  |false=>
   rw[c]at h;have:=h j (Ku s n _ _ j az7);rw[this];exact Kv n _ _ h
theorem ajR{f:Nat}{vs:List ah}{s:aY}{K:ah->aY->Prop}(h:lp (bA P gl) f vs s K):
  ∃r s' ws,K r s'/\s'=apps ws s/\
   (∀q,q∈(reach s (s.length+s.length+8) (vs.flatMap (refs depth)) []).map (λi=>(i,s.getD i .dead))->s[q.1]?=some q.2)/\
   (∀i ob,SW.o i ob∈ws->i∈reach s (s.length+s.length+8) (vs.flatMap (refs depth)) []/\s'.getD i .dead=ob)/\
   (∀i off v,SW.c i off v∉ws)/\
   ∀(a:aY) (c:ah->aY->Prop),a.length=s.length->(∀i,i∈reach s (s.length+s.length+8) (vs.flatMap (refs depth)) []->a.getD i .dead=s.getD i .dead)->c r (apps ws a)->lp (bA P gl) f vs a c:=by
 obtain⟨k,r,s',p,d,l⟩:=h;have g:=k;simp at g;obtain⟨⟨⟨g1,g2⟩,g3⟩,g4⟩:=g;have w:∀i,i∈reach s (s.length+s.length+8) (vs.flatMap (refs depth)) []->i<s.length:=by
  simp_all[II]
 have u:=aCM d;refine⟨_,_,uJ (reach s (s.length+s.length+8) (vs.flatMap (refs depth)) []) (s'.map (cc.ren (back (reach s (s.length+s.length+8) (vs.flatMap (refs depth)) []) s.length))),l,(Ks az8).symm,?_,?_,?_,?_⟩
 .grind
 .grind[Kt,ajQ]
 .grind[Kt]
 .intro a c n t z;have j:=Kv (s.length+s.length+8) (vs.flatMap (refs depth)) [] t;have o:(reach s (s.length+s.length+8) (vs.flatMap (refs depth)) []).map (λi=>(a.getD i .dead).ren λi=>lN i (reach s (s.length+s.length+8) (vs.flatMap (refs depth)) []))=(reach s (s.length+s.length+8) (vs.flatMap (refs depth)) []).map (λi=>(s.getD i .dead).ren λi=>lN i (reach s (s.length+s.length+8) (vs.flatMap (refs depth)) [])):=az8;have m:closed a (reach s (s.length+s.length+8) (vs.flatMap (refs depth)) []) vs=closed s (reach s (s.length+s.length+8) (vs.flatMap (refs depth)) []) vs:=by
   unfold closed;grind
  unfold lp;simp only[n,j,o,m];refine⟨?_,r,s',p,d,?_⟩;all_goals simp_all[Ks]
def aDa:=@List.mem_cons_self
theorem ajS{st a:ag}{x:O}(h:aO gl a x=aO gl st x):j' gl a x=j' gl st x:=by
 unfold j';grind
theorem Rc{d:Option Nat}{f:O}{args:List O}{st:ag}{K:ag->Prop}(l:Nat)(vs:List ah)(h:lp (bA P gl) l vs st.s λr s'=>K ({st with s:=s'}.dQ d r))
  (C:∀(a:ag) (j:ag->Prop),(∀t,t∈(I.cl d f args).rd->a.aR t=st.aR t)->step (bA P gl) gl (.cl d f args) a j=lp (bA P gl) l vs a.s λr s'=>j ({a with s:=s'}.dQ d r))
  (p:∀g,hg gl (.cl d f args) st g=EG st g vs):∃g E,K g/\qb P gl (.cl d f args) st g E/\kI E (hg gl (.cl d f args) st g):=by
 obtain⟨r,s',ws,A,rfl,J,z,L,m⟩:=ajR h;refine⟨_,{ro:=(reach st.s (st.s.length+st.s.length+8) (vs.flatMap (refs depth)) []).map (λi=>(i,st.s.getD i .dead)),len:=some st.s.length,ws:=ws},A,
  .Kr (E:={ro:=(reach st.s (st.s.length+st.s.length+8) (vs.flatMap (refs depth)) []).map (λi=>(i,st.s.getD i .dead)),len:=some st.s.length,ws:=ws}) rfl aAU (by simp[I.hw,I.dst]) rfl rfl ⟨az7,J,λn B=>az9⟩ ?_ λa j w k G=> ?_,?_⟩
 .intro u H;cases u with
  |c i off v=>grind
  |o i ob=>exact⟨(i,st.s.getD i .dead),aCY.2 ⟨i,(z i ob H).1,rfl⟩,rfl⟩
  |n ob=>simp[SW.at]
 .rw[C a j w];refine m a.s _ (k.len _ rfl) (λi F=> ?_) G;exact rB (k.ro (i,st.s.getD i .dead) (aCY.2 ⟨i,F,rfl⟩))
 .rw[p];unfold EG;have M:(({st with s:=apps ws st.s}:ag).dQ d r).s=apps ws st.s:=by rw[FX]
  refine⟨az7,?_,λn B=>az6,rfl,?_,?_,az7,az7,az7⟩;all_goals grind
theorem ajU{d:Option Nat}{f:O}{args:List O}:mz P gl (.cl d f args):=by
 intro m K h;have j:∀{g:ag},(∀t,t∈(I.cl d f args).rd->g.aR t=m.aR t)->aO gl g f=aO gl m f/\args.map (j' gl g)=args.map (j' gl m):=by
  intro g e;refine⟨kJ (gl:=gl) e (λt k=>aCN _ k),aER λx p=>ajS (kJ (gl:=gl) e (λt k=>aC7 _ (aD3.2 ⟨x,p,k⟩)))⟩
 simp only[step]at h;split at h
 .rename_i n l;exact Rc n _ h (λg r e=>by simp[step,(j e).1,(j e).2,l]) (λo=>by grind[hg])
 .rename_i n a c l;exact Rc n _ h (λg r e=>by simp[step,(j e).1,(j e).2,l]) (λo=>by grind[hg])
 .exact h.elim
def ik(st:ag)(v:ah):List (Nat×cc):=match v with
 |.aP i _ _ _ _=>[(i,st.s.getD i .dead)]
 |_=>[]
theorem Ag{st a:ag}{v:ah}{sz:Nat}(h:∀q,q∈ik st v->a.s[q.1]?=some q.2):qX a v sz=qX st v sz:=by
 cases v<;>simp[qX];simp_all[ik]
theorem Re{st a:ag}{v:ah}(h:∀q,q∈ik st v->a.s[q.1]?=some q.2):qY a v=qY st v:=by
 cases v<;>simp[qY];simp_all[ik]
theorem CH{st:ag}{v:ah}{sz:Nat}{p:List ah×Nat}(h:qX st v sz=some p):∀q,q∈ik st v->st.s[q.1]?=some q.2:=by
 intro q aS;cases v<;>simp[ik,aC5,aCS]at aS;grind[qX]
theorem Rf{st:ag}{v:ah}{p:Nat×List D}(h:qY st v=some p):∀q,q∈ik st v->st.s[q.1]?=some q.2:=by
 intro q aS;cases v<;>simp[ik,aC5,aCS]at aS;grind[qY]
theorem CI{st:ag}{v:ah}{q:Nat×cc}(h:q∈ik st v):(q.1,0,big)∈q0 v:=by
 cases v<;>simp[ik,aC5,aCS]at h;grind[q0]
theorem Kx{i:I}{nw rw:Bool}{d s:Nat}{x:O}{sz b':Nat}(H:i.rs=true)(sY:i.ws=true)(au:i.gS=[])(hw:i.hw=[d,s])(kC:i.rd=s::x.slots)
  (F:∀(st:ag) (K:ag->Prop),step (bA P gl) gl i st K=hT (bA P gl) gl nw rw d s x sz b' st K)
  (Kw:∀st o,hg gl i st o=match st.aR s with
   |.aP i _ _ _ _=>{r:=q0 (aO gl st x),w:=[(i,0,big)],a:=some st.s.length}
   |_=>{r:=q0 (aO gl st x),a:=some st.s.length}):mz P gl i:=by
 intro st K h;rw[F]at h;have h1:∀{v:ah} (f:Nat->ah) t,t∉i.hw->cK f d v t=f t:=by
  intro v f t C;simp_all[dm]
 have Q:∀{v:ah} (f M:Nat->ah) t,t∈i.hw->(∀t,t∈i.rd->M t=f t)->cK M d v t=cK f d v t:=by
  intro v f M t C hh;rw[hw]at C;simp[dm];grind
 have k1:∀{v:ah} (f:Nat->ah) t,t∉i.hw->cK (cK f s .undef) d v t=f t:=by
  intro v f t C;rw[hw]at C;simp at C;simp[dm,C.1,C.2,aCW]
 have k2:∀{v:ah} (f M:Nat->ah) t,t∈i.hw->(∀t,t∈i.rd->M t=f t)->cK (cK M s .undef) d v t=cK (cK f s .undef) d v t:=by
  intro v f M t C _;rw[hw]at C;simp[dm];grind
 have p:∀{B:ag},(∀t,t∈i.rd->B.aR t=st.aR t)->B.aR s=st.aR s/\aO gl B x=aO gl st x:=λe=>⟨e s az9,kJ (gl:=gl) e (λt C=>az9)⟩;have J:∀{E:iF},i.ws=false->E.ws=[]/\E.len=none:=λh=>az8;unfold hT at h;split at h
 .rename_i Y l A;have G:∀o,hg gl i st o={r:=q0 (aO gl st x),a:=some st.s.length}:=λo=>az9;have x0:∀o,kI {ro:=ik st (aO gl st x)} (hg gl i st o):=by
   intro o;rw[G];exact⟨az7,λq aS=>.inl (aCN _ (CI aS)),az7,rfl,az7,az7,az7,az7,az7⟩
  cases N:nw&&l.isEmpty with
  |true=>
   rw[N]at h;simp[aC0]at h;split at h
   .rename_i cs g;refine⟨_,{ro:=ik st (aO gl st x)},h,.uI (U:=λf=>cK f d (.own sz [])) (E:={ro:=ik st (aO gl st x)}) H J au rfl h1 Q ⟨az7,CH g,az7⟩ az7 λB L c m u=> ?_,x0 _⟩;rw[F];unfold hT;simp[(p c).1,(p c).2,A,N,Ag m.ro,g,aC0];exact u
   .rename_i cs k cd g;cases rw with
    |true=>
     simp at h;split at h;rotate_left
     .exact h.elim
     rename_i gC R;obtain⟨z,h⟩:=h;refine⟨_,{ro:=ik st (aO gl st x)},h,.uI (U:=λf=>cK f d (.raw sz k gC)) (E:={ro:=ik st (aO gl st x)}) H J au rfl h1 Q ⟨az7,CH g,az7⟩ az7 λB L c m u=> ?_,x0 _⟩;rw[F];unfold hT;simp[(p c).1,(p c).2,A,N,Ag m.ro,g,aC0,R];cases k with
     |zero=>grind
     |succ k=>exact⟨z,u⟩
    |false=>
     simp at h;obtain⟨z,h⟩:=h;refine⟨_,{ro:=ik st (aO gl st x),len:=some st.s.length,ws:=[.n (.box cs)]},h,.uI (U:=λf=>cK f d (.aP st.s.length 0 k k sz)) (E:={ro:=ik st (aO gl st x),len:=some st.s.length,ws:=[.n (.box cs)]}) H J au rfl h1 Q ⟨az7,CH g,λn X=>az9⟩ ?_ λB L c m u=> ?_,?_⟩
     .grind[SW.at]
     .rw[F];unfold hT;simp[(p c).1,(p c).2,A,N,Ag m.ro,g,aC0,m.len _ rfl];cases k with
      |zero=>grind
      |succ k=>exact⟨z,u⟩
     .rw[G];exact⟨az7,λq aS=>.inl (aCN _ (CI aS)),λn X=>az6,rfl,az7,az7,az7,az7,az7⟩
   .exact h.elim
  |false=>
   rw[N]at h;simp[aDy]at h;split at h
   .rename_i dz l2 g;obtain⟨z,h⟩:=h;refine⟨_,{ro:=ik st (aO gl st x)},h,.uI (U:=λf=>cK (cK f s .undef) d (.own sz (l++l2))) (E:={ro:=ik st (aO gl st x)}) H J au rfl k1 k2 ⟨az7,Rf g,az7⟩ az7 λB L c m u=> ?_,x0 _⟩;rw[F];unfold hT;simp[(p c).1,(p c).2,A,N,Re m.ro,g,aDy];exact⟨z,u⟩
   .exact h.elim
 .rename_i Y n cs A;have G:∀o,hg gl i st o={r:=q0 (aO gl st x),a:=some st.s.length}:=λo=>az9;split at h
  .rename_i us k g;split at h
   .rename_i gC R;obtain⟨z,h⟩:=h;refine⟨_,{ro:=ik st (aO gl st x)},h,.uI (U:=λf=>cK (cK f s .undef) d (.raw sz (n+k) (cs++gC))) (E:={ro:=ik st (aO gl st x)}) H J au rfl k1 k2 ⟨az7,CH g,az7⟩ az7 λB L c m u=> ?_,?_⟩
    .rw[F];unfold hT;simp[(p c).1,(p c).2,A,Ag m.ro,g,R];exact⟨z,u⟩
    .rw[G];exact⟨az7,λq aS=>.inl (aCN _ (CI aS)),az7,rfl,az7,az7,az7,az7,az7⟩
   .exact h.elim
  .exact h.elim
 .rename_i j off len cap Y A;have G:∀o,hg gl i st o={r:=q0 (aO gl st x),w:=[(j,0,big)],a:=some st.s.length}:=λo=>az9;split at h
  .rename_i cs us k R g;obtain⟨z,h⟩:=h;have xY:∀q,q∈(j,cc.box cs)::ik st (aO gl st x)->st.s[q.1]?=some q.2:=by
    intro q aS;rcases aCJ.1 aS with rfl|aS
    all_goals grind[CH]
   have vI:∀q,q∈(j,cc.box cs)::ik st (aO gl st x)->(q.1,0,big)∈q0 (aO gl st x)++[(j,0,big)]:=by
    intro q aS;rcases aCJ.1 aS with rfl|aS
    all_goals grind[CI]
   cases V:Nat.ble (len+k) cap with
   |true=>
    rw[V]at h;obtain⟨Z,h⟩:=h;refine⟨_,{ro:=(j,.box cs)::ik st (aO gl st x),ws:=[.o j (.box (putCells cs (off+len*sz) us))]},h,.uI (U:=λf=>cK f d (.aP j off (len+k) cap sz)) (E:={ro:=(j,.box cs)::ik st (aO gl st x),ws:=[.o j (.box (putCells cs (off+len*sz) us))]}) H J au rfl h1 Q ⟨az7,xY,az7⟩ ?_ λB L c m u=> ?_,?_⟩
    .intro ad S;simp[aCS]at S;subst S;exact⟨_,aDa,rfl⟩
    .rw[F];unfold hT;have f1:=rB (m.ro _ aDa);simp only at f1;simp only[(p c).1,(p c).2,A,Ag (λq aS=>m.ro q (aDu _ aS)),g,f1,V];exact⟨z,Z,u⟩
    .rw[G];refine⟨az7,λq aS=>.inl (vI q aS),az7,rfl,az7,?_,az7,az7,az7⟩;simp
   |false=>
    rw[V]at h;obtain⟨Z,h⟩:=h;refine⟨_,{ro:=(j,.box cs)::ik st (aO gl st x),len:=some st.s.length,ws:=[.o j .dead,.n (.box (cs.take (len*sz)++us))]},h,.uI (U:=λf=>cK f d (.aP st.s.length 0 (len+k) (len+k) sz)) (E:={ro:=(j,.box cs)::ik st (aO gl st x),len:=some st.s.length,ws:=[.o j .dead,.n (.box (cs.take (len*sz)++us))]}) H J au rfl h1 Q ⟨az7,xY,λn X=>az9⟩ ?_ λB L c m u=> ?_,?_⟩
    .intro ad S;simp only[aCJ,aC5,aDW]at S;grind[List.mem_cons_self,SW.at]
    .rw[F];unfold hT;have f1:=rB (m.ro _ aDa);simp only at f1;simp only[(p c).1,(p c).2,A,Ag (λq aS=>m.ro q (aDu _ aS)),g,f1,V,m.len _ rfl];exact⟨z,Z,u⟩
    .rw[G];refine⟨az7,λq aS=>.inl (vI q aS),λn X=>az6,rfl,az7,?_,az7,az7,az7⟩;simp
  .exact h.elim
 .rename_i Y A;have G:∀o,hg gl i st o={r:=q0 (aO gl st x),a:=some st.s.length}:=λo=>az9;split at h
  .rename_i dz l2 g;obtain⟨z,h⟩:=h;refine⟨_,{ro:=ik st (aO gl st x)},h,.uI (U:=λf=>cK (cK f s .undef) d (iL sz l2)) (E:={ro:=ik st (aO gl st x)}) H J au rfl k1 k2 ⟨az7,Rf g,az7⟩ az7 λB L c m u=> ?_,?_⟩
   .rw[F];unfold hT;simp only[(p c).1,(p c).2,A,Re m.ro,g];exact⟨z,u⟩
   .rw[G];exact⟨az7,λq aS=>.inl (aCN _ (CI aS)),az7,rfl,az7,az7,az7,az7,az7⟩
  .exact h.elim
 .exact h.elim
theorem ajV{d s:Nat}{x:O}{sz a:Nat}:mz P gl (.ap d s x sz a):=Kx rfl rfl rfl rfl rfl (λ_ _=>rfl) (λ_ _=>rfl)
theorem ajW{d s:Nat}{x:O}{sz a:Nat}:mz P gl (.nF d s x sz a):=Kx rfl rfl rfl rfl rfl (λ_ _=>rfl) (λ_ _=>rfl)
theorem ajX{d s:Nat}{x:O}{sz a:Nat}:mz P gl (.nG d s x sz a):=Kx rfl rfl rfl rfl rfl (λ_ _=>rfl) (λ_ _=>rfl)
theorem Rg{i:I}(a:sl i=false)(c:ic i=false):mz P gl i:=by
 cases i;case e3=>exact ajG
 case aM=>grind[sl]
 case nH=>grind[sl]
 case pL=>grind[sl]
 case ls=>exact ajH
 case aE=>exact ajE
 case aK=>exact ajF
 case hs=>exact ajI
 case aH=>exact ajJ
 case oU=>exact ajL
 case cl=>exact ajU
 case ap=>exact ajV
 case nF=>exact ajW
 case nG=>exact ajX
 case sd=>exact ajM
 case ai=>exact ajN
 case oV=>exact ajO
 all_goals first
  |exact ajC a rfl rfl (λ_ _=>rfl)
  |grind[ic]
theorem aBn(h:p:=by grind[I.hw,I.dst]):p:=h
theorem Rh{i:I}{t:Nat}(h:t∈i.hw):i.dst=some t\/t∈i.rd:=by
 rcases aC9.1 h with h|h
 all_goals grind[I.rd]
theorem FZ{i:I}{t:Nat}(h:t∈i.kl):t∈i.rd:=by
 cases i<;>simp[I.kl,aC5]at h
 .exact h
 .exact aC7 _ h
 .exact aC7 _ h
 .exact h
theorem ajY{i:I}{t:Nat}(h:t∈i.gS):t∈i.oX:=by
 cases i<;>simp[I.gS,I.oX]at h⊢ <;>exact h
theorem ajZ{i:I}(h:i.ws=true):i.rs=true:=by
 cases i<;>simp[I.ws,I.rs]at h⊢
theorem Ri{i:I}{d:Nat}(h:i.dst=some d):d∈i.hw:=by
 simp_all[I.hw]
theorem vZ{g:cm}{t:Nat}(h:t∈g.i.rd):t∈g.rd:=by grind[cm.rd]
structure qc(P:Program)(gl:Nat->List D)(id:Nat)(g:cm)(st aU:ag)(E:iF):Prop where
 aR:∀t,t∉g.i.hw->t∉E.k->aU.aR t=st.aR t
 bM:∀t,t∉g.i.gS->aU.bM t=st.bM t
 s:aU.s=apps E.ws st.s
 aw:jk E st.s
 k:∀t,t∈E.k->t∈g.i.kl
 at_:∀u,u∈E.ws->u.at E
 r0:g.i.rs=false->E.rd=[]/\E.ro=[]/\E.len=none
 w0:g.i.ws=false->E.ws=[]/\E.len=none
 pf:∀(st2:ag) (bO:ag->Prop),(∀t,t∈g.rd->st2.aR t=st.aR t)->(∀t,t∈g.i.oX->st2.bM t=st.bM t)->jk E st2.s->bO (iV g.i E st2 aU)->kV (bA P gl) gl id g st2 bO
theorem Ky(st:ag)(d:Option Nat)(v:ah)(t:Nat):(st.dQ d v).aR t=if d=some t then v else st.aR t:=by
 obtain⟨a,b,c⟩:=st;rw[FX]
theorem Rj(st:ag)(d:Option Nat)(v:ah):(st.dQ d v).bM=st.bM:=by cases d<;>rfl
theorem Rk(st:ag)(d:Option Nat)(v:ah):(st.dQ d v).s=st.s:=by cases d<;>rfl
theorem aj0{c:Nat}{g:cm}{st a:ag}{E:iF}(h:qc P gl c g st a E):iV g.i E st a=a:=by
 refine uH (λt=> ?_) (λt=> ?_) h.s.symm
 .split
  .rfl
  .rename_i aq;simp at aq;exact(h.aR t aq.1 aq.2).symm
 grind[qc.bM]
theorem qc.mono{c:Nat}{g:cm}{st a:ag}{E:iF}(h:qc P gl c g st a E){K:ag->Prop}(d:K a):kV (bA P gl) gl c g st K:=
 h.pf st K (λ_ _=>rfl) (λ_ _=>rfl) h.aw (by grind[aj0])
theorem Rl{k:Nat}{g:cm}{st:ag}(j:ic g.i=false)(d:∀(a:ag) (c:ag->Prop),(∀t,t∈g.rd->a.aR t=st.aR t)->c (a.dQ g.i.dst (.tuple []))->step1 (bA P gl) gl g a c):
  qc P gl k g st (st.dQ g.i.dst (.tuple [])) {}:=by
 refine⟨λt m _=> ?_,λt _=>by rw[Rj],by rw[Rk];rfl,⟨az7,az7,az7⟩,az7,az7,λ_=>⟨rfl,rfl,rfl⟩,λ_=>⟨rfl,rfl⟩,λa c f l _ n=> ?_⟩
 .rw[Ky,aCV];grind[Ri]
 .unfold kV;rw[j];refine d a c f ?_;have:iV g.i {} a (st.dQ g.i.dst (.tuple []))=a.dQ g.i.dst (.tuple []):=by
   refine uH (λt=> ?_) (λt=> ?_) (by rw[Rk];rfl)
   .rw[Ky,Ky];by_cases h:g.i.dst=some t
    .grind[Ri]
    .grind[Rh,vZ]
   simp_all[Rj,ajY]
  simp_all
theorem qb.Rm{f:Nat}{g:cm}{st d:ag}{E:iF}(n:ic g.i=false)(h:qb P gl g.i st d E)
  (j:∀(a:ag) (c:ag->Prop),(∀t,t∈g.rd->a.aR t=st.aR t)->step (bA P gl) gl g.i a c->step1 (bA P gl) gl g a c):qc P gl f g st d E:=by
 refine⟨h.aR,h.bM,h.s,h.aw,h.k,h.at_,h.r0,h.w0,λa c m k l o=> ?_⟩;grind[kV,vZ,pf]
theorem Rn{i:I}{st:ag}{o:cc}{d:Nat}{v:Nat->ah}(h:ku gl i st=some (o,d,v)):i.hw=[d]/\i.gS=[]/\i.rs=true/\i.ws=true/\i.dst=some d/\
  ∀a:ag,(∀t,t∈i.rd->a.aR t=st.aR t)->ku gl i a=some (o,d,v):=by
 cases i<;>simp only[ku,reduceCtorEq]at h;case bn c z=>
  obtain⟨h1,g,j⟩:=h;refine⟨aBn,rfl,rfl,rfl,by grind[I.dst],λa _=>by grind[ku]⟩
 case mm c=>
  obtain⟨h1,g,j⟩:=h;refine⟨aBn,rfl,rfl,rfl,by grind[I.dst],λa _=>by grind[ku]⟩
 case au c x n=>
  have k:c=d:=az9;refine⟨aBn,rfl,rfl,rfl,by grind[I.dst],λa e=> ?_⟩;simp[ku,kJ (gl:=gl) e (x:=x) (λt f=>f)];exact h
 case mk c sz z n l=>
  have k:c=d:=az9;refine⟨aBn,rfl,rfl,rfl,by grind[I.dst],λa e=> ?_⟩;simp[ku,kJ (gl:=gl) e (x:=n) (λt f=>f)];exact h
theorem aj1{a:Nat}{g:cm}(r:sl g.i=false){st:ag}{K:ag->Prop}(h:kV (bA P gl) gl a g st K):
  ∃c E,K c/\qc P gl a g st c E/\kI E (vA gl a g st c):=by
 cases bn:ic g.i with
 |true=>
  unfold kV at h;rw[bn]at h;split at h
  .rename_i o d v k C;obtain⟨Q,h⟩:=h;have R:a<st.s.length:=az8;obtain⟨S,J,L,M,N,A⟩:=Rn C;have Y:g.rd=g.i.rd:=by grind[cm.rd]
   refine⟨_,{ro:=[(a,st.s.getD a .dead)],ws:=[.o a o]},h,⟨λt p _=> ?_,λt _=>rfl,rfl,⟨az7,?_,az7⟩,az7,?_,λB=>az8,λB=>az8,λf j f1 V F X=> ?_⟩,?_⟩
   .simp_all[ag.set,dm]
   .simp_all
   .intro u z;simp at z;subst z;exact⟨_,aCS.2 rfl,rfl⟩
   .have U:=(aDA.1 (F.ro _ (aCS.2 rfl))).1;unfold kV;rw[bn];simp[aC0,k,A f (λt p=>f1 t (vZ p))];refine⟨az8,?_⟩;have:iV g.i {ro:=[(a,st.s.getD a .dead)],ws:=[.o a o]} f ({st with s:=st.s.set a o}.set d (v a))={f with s:=f.s.set a o}.set d (v a):=by
     refine uH (λt=> ?_) (λt=>by grind[ag.set]) rfl;simp_all[ag.set,dm]
    simp_all
   .unfold vA;rw[bn];refine⟨az7,?_,az7,rfl,az7,?_,az7,az7,az7⟩;all_goals simp
  .exact h.elim
 |false=>
  have H:∀c,vA gl a g st c=zv gl g st c:=λc=>by grind[vA]
  unfold kV at h;rw[bn]at h;simp at h;unfold step1 at h;split at h
  .rename_i k;obtain⟨c,E,m,n,G⟩:=Rg (P:=P) (gl:=gl) r bn st K h;refine⟨c,E,m,n.Rm bn λf j _ l=> ?_,?_⟩;all_goals grind[step1,zv]
  .rename_i s want k;have Z:∀{f:ag},(∀t,t∈g.rd->f.aR t=st.aR t)->f.aR s=st.aR s:=λe=>e s (by grind[cm.rd]);split at h
   .rename_i b au;cases w:cond want b (!b)with
    |true=>
     rw[w]at h;simp at h;obtain⟨c,E,m,n,G⟩:=Rg (P:=P) (gl:=gl) r bn st K h;refine⟨c,E,m,n.Rm bn λf j e l=> ?_,?_⟩;all_goals grind[step1,zv]
    |false=>
     rw[w]at h;simp at h;refine⟨_,{},h,Rl bn λf j e l=> ?_,?_⟩;all_goals grind[step1,zv,Af]
   .rename_i au;refine⟨_,{},h,Rl bn λf j e l=> ?_,?_⟩;all_goals grind[step1,zv,Af]
   .exact h.elim
structure T where
 id:Nat
 g:cm
 E:iF
def rC(P:Program)(gl:Nat->List D):List T->ag->(ag->Prop)->Prop
 |[],st,K=>K st
 |t::l,st,K=>∃a,qc P gl t.id t.g st a t.E/\rC P gl l a K
structure v8(x y:T):Prop where
 h:zt x.g y.g=true
 k1:∀t,t∈x.E.k->t∉y.g.rd/\t∉y.g.i.hw
 k2:∀t,t∈y.E.k->t∉x.g.rd/\t∉x.g.i.hw
 e:FP x.E y.E
theorem s0{a b:List Nat}(h:qW a b=true):∀t,t∈a->t∉b:=by
 intro t c au;have:=aCQ.1 h t c;rw[p4.2 au]at this;simp_all
theorem aj2{x y:T}{l:List T}{st:ag}{K:ag->Prop}(hi:v8 x y)(h:rC P gl (x::y::l) st K):rC P gl (y::x::l) st K:=by
 obtain⟨G,a,s2,c,E⟩:=h;have p:=hi.h;unfold zt at p;simp at p;obtain⟨⟨⟨n,C⟩,j⟩,o⟩:=p;have n:=s0 n;have C:=s0 C;have j:=s0 j;have o:=s0 o;have H:=λt aK=>a.aR t (λd=>n t d (aCN _ aK)) (λhk=>(hi.k1 t hk).1 aK);have J:=λt aK=>a.bM t λd=>j t d (aCN _ aK);have w:=by
  refine ajx hi.e.QY hi.e.QZ a.at_ a.aw ?_;rw[<-a.s];exact c.aw
 have L:∀t,t∈x.g.i.hw\/t∈x.E.k->s2.aR t=G.aR t:=by
  intro t aK;refine c.aR t (λd=> ?_) (λhk=> ?_)
  .rcases aK with aK|aK
   .simp_all
   .exact(hi.k1 t aK).2 d
  .rcases aK with aK|aK
   .exact(hi.k2 t hk).2 aK
   .exact(hi.k1 t aK).1 (vZ (FZ (c.k t hk)))
 have M:=λt aK=>c.bM t λd=>j t aK (aC7 _ d);have F:=by
  refine(QU (λu r v s=>hi.e.ww u r v s) (λu r=>QS (a.at_ u r) a.aw) (λv s=>QS (c.at_ v s) w)).symm
 refine⟨iV y.g.i y.E st s2,⟨λt h1 A=> ?_,λt h1=> ?_,rfl,w,c.k,c.at_,c.r0,c.w0,λg m B z k hk=> ?_⟩,s2,⟨λt h1 A=> ?_,λt h1=> ?_,?_,QW hi.e.QX a.aw,a.k,a.at_,a.r0,a.w0,λg m B z k hk=> ?_⟩,E⟩
 .simp_all[iV]
 .simp_all[iV]
 .refine c.pf g m (λt aK=>az8) (λt aK=>az8) k ?_;have:iV y.g.i y.E g (iV y.g.i y.E st s2)=iV y.g.i y.E g s2:=by
   refine uH (λt=> ?_) (λt=> ?_) rfl
   .simp[iV];simp_all
   .simp[iV];simp_all
  simp_all
 .simp only[iV];split
  .rfl
  .rename_i f;simp at f;rw[c.aR t f.1 f.2,a.aR t h1 A]
 .grind[iV,qc.bM]
 .rw[c.s,a.s];exact F
 .refine a.pf g m (λt aK=> ?_) (λt aK=> ?_) k ?_
  .rw[B t aK];have f:¬(t∈y.g.i.hw\/t∈y.E.k):=by
    rintro(d|hk)
    .simp_all
    .exact(hi.k2 t hk).1 aK
   simp[iV,f,aCW]
  .rw[z t aK];have f:t∉y.g.i.gS:=λd=>o t d aK;simp[iV,f,aCW]
  grind[iV]
theorem Kz{g:T}:∀{l1 l2:List T} {st:ag} {K:ag->Prop},(∀x,x∈l1->v8 x g)->rC P gl (l1++g::l2) st K->rC P gl (g::(l1++l2)) st K
 |[],l2,st,K,_,h=>h
 |x::l1,l2,st,K,aE,h=>by
  obtain⟨f,c,h⟩:=h;have d:=Kz (l1:=l1) (λy a=>aE y (by simp[a])) h;exact aj2 (aE x az7) ⟨f,c,d⟩
def nV:List cm->Nat->List Nat
 |[],_=>[]
 |g::l,id=>id::nV l (cond (ic g.i) (id+1) id)
def Rp(x y:T):Prop:=∃a c,kI x.E a/\kI y.E c/\BM x.g a y.g c=true
theorem Rq:∀{l:List cm} {a:List (List Nat)} {acc:List (cm×ju)} {c:Nat} {st:ag} {K:ag->Prop} {ts:List T},(∀g,g∈l->sl g.i=false)->
  (∀(i:Nat) x f,acc[i]?=some (x,f)->∃t,ts[i]?=some t/\t.g=x/\kI t.E f)->acc.length=ts.length->q2 (bA P gl) gl l a acc c st K->
  ∃d:List T,rC P gl d st K/\d.map (·.g)=l/\d.map (·.id)=nV l c/\∀(j:Nat) m,d[j]?=some m->∀i,i∈a.getD j []->∃s,(ts++d)[i]?=some s/\Rp s m
 |[],a,acc,c,st,K,ts,_,_,_,h=>⟨[],h,rfl,rfl,az7⟩
 |g::l,a,acc,c,st,K,ts,p,bn,hlen,h=>by
  obtain⟨u,E,⟨v,z⟩,w,n⟩:=aj1 (p g az7) h;obtain⟨d,A,L,J,M⟩:=Rq (ts:=ts++[⟨c,g,E⟩]) (λg G=>p g az9) (by
   intro i x f k;rcases aDo i acc.length with aE|aE
   .grind
   .rw[aDp aE]at k;have B:i-acc.length=0:=az9;rw[B]at k;obtain⟨rfl,rfl⟩:=k;exact⟨⟨c,g,E⟩,az9,rfl,n⟩) az8 z
  refine⟨⟨c,g,E⟩::d,⟨u,w,A⟩,az9,by grind[nV],?_⟩;intro j m o i k;cases j with
  |zero=>
   simp at o;subst o;have r:i∈a.headD []:=by cases a<;>first|grind|simp at k
   have:=aCQ.1 v i r;split at this
   .rename_i x f ai;obtain⟨t,C,N,F⟩:=bn i x f ai;have H:=(aDA.1 C).1;refine⟨t,az9,f,_,F,n,?_⟩;simp_all
   simp_all
  |succ j=>
   have r:i∈a.tail.getD j []:=az8;grind
end
section
variable {P:Program}{gl:Nat->List D}{n0 nt:Nat}{a:Act}{w w' w0:World}{G G' G0:bL}{ρ ρ' ρ0:List Nat}{lam lam':Nat->Option Nat}{st aU:ag}{K:ag->Prop}{o:Oper}{Q:Exit->Act->World->Prop}
theorem b2.aj4{d c:Nat}{ob:Obj}{v:Value}{x:ah}{vo:cc}(h:b2 gl w G ρ lam a.tmps st)(B:ρ[c]?=some 0)(z:gD w ob w')(r:d<a.tmps.size)
  (A:ky w' (fQ w G (.obj c) 0) (ρ.set c (w.heap.size+1)) c w.heap.size vo) (p:c7 w' (fQ w G (.obj c) 0) (ρ.set c (w.heap.size+1)) v x):
  b2 gl w' (fQ w G (.obj c) 0) (ρ.set c (w.heap.size+1)) lam (a.tmps.setIfInBounds d v) ({st with s:=st.s.set c vo}.set d x):=by
 have f:∀i b:Nat,ρ[i]?=some (b+1)->(ρ.set c (w.heap.size+1))[i]?=some (b+1):=az9;have C:c<st.s.length:=by rw[<-h.ob.1];grind
 have bB:=z.rel (L0:=.obj c) (n0:=0) h.lt h;refine b2.set (st:={st with s:=st.s.set c vo}) ⟨λt=> ?_,?_,bB.nb,⟨aA7,?_⟩,bB.eU,bB.lt⟩ r (.cz p)
 .exact(bB.aR t).b0 (de.refl _ _) f (λ_ _ h=>h) (λb n h=>⟨rfl,h⟩)
 .intro t u l;obtain⟨b,h1,m⟩:=bB.bM t u l;exact⟨b,h1,dC.b0 (de.refl _ _) f (λb n h=>⟨rfl,h⟩) (λj b n h=>⟨rfl,h⟩) m⟩
 .intro i b o au g;by_cases k:c=i
  .grind
  .rw[aDb k]at au;rw[aDb k]at g;exact(bB.ob.2 i b o au g).b0 (de.refl _ _) f (λb n h=>⟨rfl,h⟩) (λj b n h=>⟨rfl,h⟩)
def Aj(P:Program)(o:Oper)(a:Act)(w:World)(G:bL)(ρ:List Nat)(ob:cc)(v:Nat->ah):Prop:=
 ∃(f:Value) (g:Obj) (d:World),(execOp a.eval o).run P w=.ok (.value f) d/\gD w g d/\
  ∀(c:Nat) (ρ':List Nat),(∀i b:Nat,ρ[i]?=some (b+1)->ρ'[i]?=some (b+1))->ρ'[c]?=some (w.heap.size+1)->
   ky d (fQ w G (.obj c) 0) ρ' c w.heap.size ob/\c7 d (fQ w G (.obj c) 0) ρ' f (v c)
theorem aj5{e:Nat}{z:List ah}(p:o.op=.alloc e)(f:zeros P e=some z):Aj P o a w G ρ (.box z) (λi=>.ptr i 0):=by
 obtain⟨i,v,h1,m,n,l,g⟩:=om f;have d:(execOp a.eval o).run P w=.ok (.value (.pointer (some ⟨w.heap.size,0,none⟩))) {w with heap:=w.heap.push (.cells v.cells e)}:=aBC;have c:gD w (.cells ⟨v.cells.toList⟩ e) {w with heap:=w.heap.push (.cells v.cells e)}:=⟨rfl,rfl,rfl⟩;exact⟨_,_,_,d,c,λk ρ' r j=>⟨xB (LC:=.dk k) c g,.ptr _ _ _ j⟩⟩
theorem aj6{e n t:Nat}{x:Operand}{c:O}(p:b6 n0 gl nt w G ρ lam a st)(v:o.op=.box e x)(j:bW P t x=some c)
  (d:(Nat.beq (cellsOf (gT (aO gl st c))).length n&&(cellsOf (gT (aO gl st c))).all (eo depth))=true):Aj P o a w G ρ (.box (cellsOf (gT (aO gl st c)))) (λi=>.ptr i 0):=by
 simp only[aCx]at d;obtain⟨u,s⟩:=dY j p.rel;have l:=E4 s d.2;have g:(execOp a.eval o).run P w=.ok (.value (.pointer (some ⟨w.heap.size,0,none⟩))) {w with heap:=w.heap.push (.cells (a.eval x).cells e)}:=aBD;have f:gD w (.cells ⟨(a.eval x).cells.toList⟩ e) {w with heap:=w.heap.push (.cells (a.eval x).cells e)}:=⟨rfl,rfl,rfl⟩;refine⟨_,_,_,g,f,λr ρ' k m=>⟨xB (LC:=.dk r) f ?_,.ptr _ _ _ m⟩⟩;exact(l.keep (de.refl _ _) k).cells d.2
theorem aj7{t:Nat}(g:o.op=.makeMap t none):Aj P o a w G ρ (.map []) (λi=>.map i):=by
 have d:(execOp a.eval o).run P w=.ok (.value (.map (some w.heap.size))) {w with heap:=w.heap.push (.map #[] 0)}:=by
  simp_all[execOp,Instr.makeMap]
 have c:gD w (.map #[] 0) {w with heap:=w.heap.push (.map #[] 0)}:=⟨rfl,rfl,rfl⟩;exact⟨_,_,_,d,c,λk ρ' j f=>⟨⟨#[],0,c.new,aAv,rfl,az7⟩,.map _ _ f⟩⟩
theorem aj8{t e sz bt:Nat}{z:List ah}{l c:Operand}{j:O}{k:IntKind}{n:Int}(p:b6 n0 gl nt w G ρ lam a st)(K:o.op=.makeSlice t l c)(Q:a.eval c=a.eval l)(m:bW P 0 l=some j)
  (C:P.underlying t=some (.slice e)) (u:df P e=some sz) (A:0<sz) (r:zeros P e=some z) (H:bytesOf P e=some bt) (E:0<bt) (s:aO gl st j=.d (.int k n))
  (d:(decide (0<=n)&&decide (n<=((1099511627776/bt:Nat):Int)))=true):Aj P o a w G ρ (.box (List.replicate n.toNat z).flatten) (λi=>.aP i 0 n.toNat n.toNat sz):=by
 obtain⟨M,h1⟩:=dY m p.rel;rw[s]at h1;have N:=h1.int;simp at d;obtain⟨g,R,J,S⟩:=Qq (P:=P) (w:=w) (k:=k) C u A r H E d.1 d.2;have v:(execOp a.eval o).run P w=.ok (.value (.slice (some ⟨w.heap.size,0,none⟩) n.toNat n.toNat)) {w with heap:=w.heap.push (.cells ⟨g⟩ e)}:=aAO;have f:gD w (.cells ⟨g⟩ e) {w with heap:=w.heap.push (.cells ⟨g⟩ e)}:=⟨rfl,rfl,rfl⟩;refine⟨_,_,_,v,f,λF ρ' L B=>⟨xB (LC:=.dk F) f J,?_⟩⟩;refine .aP _ _ _ _ _ _ _ B (aCw _) ⟨_,e,(0,0),f.new,?_⟩;simp_all
def aj9(n0:Nat)(gl:Nat->List D)(nt:Nat)(a:Nat)(w:World)(G:bL)(ρ:List Nat)(K:ag->Prop)(a':Act)(w':World):Prop:=
 nt<=a'.tmps.size/\∃G' ρ' lam' aU,Marks n0 w' G' a'.defers/\b2 gl w' G' ρ' lam' a'.tmps aU/\Good w G w' G'/\(∀i b:Nat,i≠a->ρ[i]?=some b->ρ'[i]?=some b)/\K aU
theorem aj'{d c:Nat}{ob:cc}{v:Nat->ah}(p:b6 n0 gl nt w G ρ lam a st)(n:o.dst=some d)(r:d<nt)(g:ρ[c]?=some 0)(h:Aj P o a w G ρ ob v)
  (m:K ({st with s:=st.s.set c ob}.set d (v c))):o.wp P a w (aj9 n0 gl nt c w G ρ K) Q:=by
 obtain⟨C,B,E,k,j,h⟩:=h;have u:=(aDA.1 g).1;have t:∀i b:Nat,ρ[i]?=some (b+1)->(ρ.set c (w.heap.size+1))[i]?=some (b+1):=az9;obtain⟨h1,l⟩:=h c (ρ.set c (w.heap.size+1)) t az8;have f:=j.good p.rel.lt (L0:=.obj c) (n0:=0) az7;refine gg k ⟨aAe,_,ρ.set c (w.heap.size+1),lam,_,by rw[put_defers];exact p.eT.good f,?_,f,λi b z A=> ?_,m⟩
 .rw[n];exact p.rel.aj4 g j (aC2 r p.sz) h1 l
 grind
theorem aka{an:ey}{m:fh}{i:I}{ob:cc}{d:Nat}{v:Nat->ah}(p:b6 n0 gl nt w G ρ lam a st)(h:jA P an m o=some i)(f:ku gl i st=some (ob,d,v)):Aj P o a w G ρ ob v:=by
 unfold jA at h;split at h;case h_4=>
  rename_i e B j s;simp[aDt,aCL]at h;grind[zy,ku,aj5]
 case h_5=>
  rename_i e x B j s;simp[aDt,aCL,aCz]at h;obtain⟨n,r,u,K,rfl⟩:=h;split at f
  .simp[ku]at f;cases g:(Nat.beq (cellsOf (gT (aO gl st u))).length n&&(cellsOf (gT (aO gl st u))).all (eo depth))with
   |false=>simp_all
   |true=>
    rw[g]at f;grind[aj6]
  grind[ku]
 case h_15=>
  grind[ku,aj7]
 case h_21=>
  rename_i t l c B j s;simp only[aDt,aCL]at h;obtain⟨e,H,z,E,n,r,b,au,h⟩:=h;split at h
  .rename_i g;simp at g;simp[aCL,aCz]at h;obtain⟨L,C,rfl⟩:=h;have J:a.eval c=a.eval l:=by
    have:=g.1.1;unfold IQ at this;grind[Nat.eq_of_beq_eq_true]
   simp only[ku]at f;split at f
   .rename_i k n' F;cases A:(decide (0<=n')&&decide (n'<=((1099511627776/b:Nat):Int)))with
    |false=>grind
    |true=>
     rw[A]at f;simp at f;obtain⟨rfl,rfl,rfl⟩:=f;exact aj8 p j J C (uw H) r g.1.2 E au g.2 F A
   simp_all
  simp_all
 all_goals
  exfalso;revert f
  (repeat' (first
   |(simp[aDt,aCL,aDr,aCz,reduceCtorEq]at h)
   |(obtain⟨_,_,h⟩:=h)
   |(subst h;simp[ku];done)
   |(exact h.elim)
   |(split at h)))
 all_goals grind[ku]
def aET:=@List.mem_filter
def aDw:=@List.mem_range
def aF7:=@Array.all_eq_true_iff_forall_mem
def aES:=@List.pairwise_cons
def aDR:=@List.pairwise_append
def aFb:=@Bool.true_eq_false
theorem aAW(h:p:=by simp[cj]):p:=h
theorem aB7(h:p:=by have:=(aES.1 jI.2.1).1 j h;omega):p:=h
theorem x2{ops:Array Oper}{listed:Array Bool}(a:∀(j:Nat) (o:Oper),ops[j]?=some o->listed.getD j true=true->∀e∈o.after.toList,Region.binds .any e=true->listed.getD e.on false=true){x:Nat}:
  ∀(n j:Nat) (o:Oper),ops[j]?=some o->(∀e∈o.after.toList,Region.binds .any e=true->listed.getD e.on false=true)->lu ops x n j=true->listed.getD x false=true
 |0,j,o,_,_,h=>by grind[lu]
 |n+1,j,o,d,bn,h=>by
  simp only[lu,d,List.any_eq_true,aCx,aDY]at h;obtain⟨e,f,au,h⟩:=h;have h1:=bn e f au;rcases h with h|h
  .grind[Nat.eq_of_beq_eq_true]
  .cases c:ops[e.on]? with
   |none=>
    cases n with
    |zero=>grind[lu]
    |succ n=>grind[lu]
   |some cO=>
    refine x2 a n e.on cO c (a e.on cO c ?_) h;grind
theorem F1{an:ey}{nt:Nat}{j:Array Oper}:∀(fuel:Nat) {l:List Oper} {m:fh} {a:List cm},l.length<=fuel->hV P an nt j m l=some a->a.length=l.length
 |_,[],m,a,_,h=>by
  grind[hV]
 |0,o::l,m,a,f,_=>az8
 |fuel+1,o::l,m,a,f,h=>by
  simp at f;rcases vS h with⟨g,k,h1,c,rfl⟩|⟨cO,r,n,d,ins,e,k,rfl,ai,p,he,c,rfl⟩
  .simp[F1 fuel az6 c]
  .simp at f;simp[F1 fuel az6 c]
theorem KA{an:ey}{nt:Nat}{k:Array Oper}:∀{l:List Oper} {m:fh} {a:List cm},hV P an nt k m l=some a->∀(i:Nat) (o:Oper),(∀j,j<=i->∀g,a[j]?=some g->oZ g.i=false)->l[i]?=some o->
  ∃m' g,a[i]?=some g/\rq P an m' o g.i/\pS k o=some g.g/\kX nt o=true/\g.i.dst=o.dst
 |[],m,a,h,i,o,_,c=>az8
 |o::l,m,a,h,i,C,aq,c=>by
  rcases vS h with⟨g,w,h1,n,rfl⟩|⟨cO,J,G,d,ins,e,w,rfl,ai,H,he,n,rfl⟩
  .cases i with
   |zero=>
    simp at c;subst c;obtain⟨r,t,u,v⟩:=xT h1;exact⟨m,g,rfl,r,t,u,v⟩
   |succ i=>
    obtain⟨m',f,A,B⟩:=KA n i C (λj E f p=>aq (j+1) az6 f (by simpa using p)) (by simpa using c);exact⟨m',f,by simpa using A,B⟩
  .obtain⟨s,z,K,y,M,F,rfl,L⟩:=vQ ai;have:=aq 0 (aCu _) _ rfl;grind[oZ]
theorem akb{g:cm}{st:ag}{K:ag->Prop}:step1 (bA P gl) gl g st K=steps (bA P gl) gl [g] st K:=by
 obtain⟨q,i⟩:=g;cases q with
 |none=>rfl
 |some q=>
  simp_all[step1,steps]
theorem akc{ops:Array Oper}{i f:Nat}{an:ey}{m:fh}{g:cm}(p:b6 n0 gl nt w G ρ lam a st)(k:ops[i]?=some o)(h:rq P an m o g.i)
  (n:pS ops o=some g.g) (B:kX nt o=true) (l:g.i.dst=o.dst) (F:ic g.i=true->ρ[f]?=some 0) (c:kV (bA P gl) gl f g st K):
  wpOp P ops Q i (λa' w'=>nt<=a'.tmps.size/\∃G' ρ' lam' aU,Marks n0 w' G' a'.defers/\b2 gl w' G' ρ' lam' a'.tmps aU/\Good w G w' G'/\(∀i b:Nat,(ic g.i=true->i≠f)->ρ[i]?=some b->ρ'[i]?=some b)/\K aU) a w:=by
 unfold kV at c;cases bn:ic g.i with
 |true=>
  rw[bn]at c;split at c
  .rename_i ob d v J j;obtain⟨_,c⟩:=c;have L:=Rn j;have t:jA P an m o=some g.i:=by
    rcases h with h|h
    all_goals grind[ic]
   have A:o.dst=some d:=az8;have H:o.guard=none:=by
    grind[pS]
   have C:d<nt:=aBk;unfold wpOp;rw[k];have:Region.wanted o (yielded ops a.tmps)=true:=by grind[Region.wanted]
   simp[this,if_true];refine .inl ?_;have:=aj' (n0:=n0) (Q:=Q) p A C (F bn) (aka p t j) c;refine Oper.wp_mono (λa' w' h=> ?_) this;obtain⟨h1,G',ρ',lam',aU,s,u,r,z,E⟩:=h;grind
  .exact c.elim
 |false=>
  rw[bn]at c;simp at c;rw[akb]at c;refine wpOp_mono (λa' w' h=> ?_) (J6 p k h n B l c);obtain⟨h1,G',ρ',lam',aU,s,u,r,z,E⟩:=h;grind
theorem Rr{ops:Array Oper}{ts rest:List T}{an:ey}{n:Nat}(ar:ts.length=ops.size)(aq:n<=ops.size)
  (sB:∀i,i<n->∀o,ops[i]?=some o->∃m' t,ts[i]?=some t/\rq P an m' o t.g.i/\pS ops o=some t.g.g/\kX nt o=true/\t.g.i.dst=o.dst)
  (nf:vF ops=true) (KB:∀i,n<=i->i<ops.size->(∀j,j<n->lu ops j ops.size i=true)\/(n<i/\lu ops n ops.size i=true))
  (uL:∀i j,i<j->j<n->lu ops i ops.size j=true\/v8 (ts.getD i ⟨0,default,{}⟩) (ts.getD j ⟨0,default,{}⟩))
  (zY:∀i j,i<n->j<n->i≠j->ic (ts.getD i ⟨0,default,{}⟩).g.i=true->ic (ts.getD j ⟨0,default,{}⟩).g.i=true->(ts.getD i ⟨0,default,{}⟩).id≠(ts.getD j ⟨0,default,{}⟩).id)
  (CJ:∀i,i<n->ic (ts.getD i ⟨0,default,{}⟩).g.i=true->ρ0.length<=(ts.getD i ⟨0,default,{}⟩).id)
  (eP:∀{listed:Array Bool} {w:World} {G:bL} {ρ:List Nat} {lam:Nat->Option Nat} {a:Act} {st:ag},listed.size=ops.size->(∀i,i<ops.size->(listed.getD i true=true↔i<n))->
   b6 n0 gl nt w G ρ lam a st->ji w0 G0 ρ0 w G ρ->rC P gl rest st K->wpAny P .any ops Q (ops.size-n) listed a w):∀(r:Nat) {rem:List Nat} {listed:Array Bool} {w:World} {G:bL} {ρ:List Nat} {lam:Nat->Option Nat} {a:Act} {st:ag},
  rem.length=r->listed.size=ops.size->rem.Pairwise (·< ·)->(∀i,i∈rem↔i<n/\listed.getD i true=false)->(∀i,n<=i->i<ops.size->listed.getD i true=false)->
  (∀(j:Nat) (o:Oper),ops[j]?=some o->listed.getD j true=true->∀e∈o.after.toList,Region.binds .any e=true->listed.getD e.on false=true)->
  (∀i,i∈rem->ic (ts.getD i ⟨0,default,{}⟩).g.i=true->ρ[(ts.getD i ⟨0,default,{}⟩).id]?=some 0)->
  b6 n0 gl nt w G ρ lam a st->ji w0 G0 ρ0 w G ρ->rC P gl (rem.map (λi=>ts.getD i ⟨0,default,{}⟩)++rest) st K->
  wpAny P .any ops Q (r+(ops.size-n)) listed a w:=by
 intro r;induction r with
 |zero=>
  intro rem listed w G ρ lam a st v cj jI m R B M p f H;have:=List.eq_nil_of_length_eq_zero v;subst this;rw[aDl];refine eP cj (λi A=> ?_) p f H;constructor
  .grind
  grind
 |succ r ih=>
  intro rem listed w G ρ lam a st v cj jI m R B M p f H;rw[Nat.succ_add];have X:∀i,i∈Region.ready .any ops listed↔(i<ops.size/\listed.getD i true=false)/\∀o,ops[i]?=some o->∀e∈o.after.toList,Region.binds .any e=true->listed.getD e.on false=true:=by
   intro i;unfold Region.ready;rw[aET,aDw];constructor
   .rintro⟨h1,c⟩;simp only[aCx,aCX]at c;refine⟨⟨h1,c.1⟩,λo k e l au=> ?_⟩;have s:=c.2;rw[k]at s;simp only[aDD,aEr,aF7,aDY,aCX]at s;rcases s e (by simpa using l)with h|h
    .grind
    omega
   .rintro⟨⟨h1,c⟩,s⟩;refine⟨h1,?_⟩;simp only[aCx,aCX];refine⟨c,?_⟩;rw[aDh h1];simp only[aDD,aEr,aF7,aDY,aCX];intro e l;cases au:Region.binds .any e with
    |false=>simp
    |true=>exact .inr (s _ (aDh h1) e (by simpa using l) au)
  refine⟨λud=> ?_,λi A=> ?_⟩
  ·
   exfalso;cases rem with
   |nil=>grind
   |cons i rem=>
    have A:=by
     have hm:=(m i).1 az7;refine(X i).2 ⟨⟨az6,hm.2⟩,λo k e l au=> ?_⟩;have E:i<ops.size:=az6;unfold vF at nf;have h1:=aCQ.1 nf i (aDw.2 E);rw[k]at h1;simp only[aCQ,aDY,aCX]at h1;have c:e.on<i:=by
      rcases h1 e l with h|h
      .grind
      .simpa [aFr]using h
     have s:e.on∉i::rem:=by
      intro h;rcases aCJ.1 h with h|h
      .omega
      .have:=(aES.1 jI).1 e.on h;omega
     have aZ:listed.getD e.on true=true:=by
      cases v:listed.getD e.on true with
      |true=>rfl
      |false=>exact absurd ((m e.on).2 ⟨az6,v⟩) s
     grind
    rw[ud]at A;simp at A
  .obtain⟨⟨E,e8⟩,J⟩:=(X i).1 A;have k:ops[i]?=some ops[i]:=aDh E;have z:i<n:=by
    rcases aDo i n with h|h
    .exact h
    .exfalso;cases rem with
     |nil=>simp at v
     |cons j rem=>
      have g:=(m j).1 az7;rcases KB i h E with hw|⟨wa,hw⟩
      .have:=x2 B ops.size i _ k (J _ k) (hw j g.1);have c:=g.2;rw[aDz,aDh (show j<listed.size by omega)]at this c;simp only[aEr]at this c;rw[this]at c;simp at c
      .have:=x2 B ops.size i _ k (J _ k) hw;have c:=R n (aCw _) az6;rw[aDz,aDh (show n<listed.size by omega)]at this c;simp only[aEr]at this c;rw[this]at c;simp at c
   have nR:i∈rem:=(m i).2 ⟨z,e8⟩;obtain⟨l1,L,rfl⟩:=List.append_of_mem nR;obtain⟨m',t,aF,c1,c2,c3,c4⟩:=sB i z _ k;have u:ts.getD i ⟨0,default,{}⟩=t:=by rw[aC4,aF];rfl
   rw[aCR,aDe,aDK,aEJ,u]at H;have KC:=Kz (l1:=l1.map λi=>ts.getD i ⟨0,default,{}⟩) (λx C=>by
    simp only[aCY]at C;obtain⟨j,g,rfl⟩:=C;have U:j∈l1++i::L:=aCN _ g;have fv:=(m j).1 U;have oA:j<i:=by
     rw[aDR]at jI;exact jI.2.2 j g i az7
    rcases uL j i oA z with hp|hp
    .exfalso;have:=x2 B ops.size i _ k (J _ k) hp;have c:=fv.2;rw[aDz,aDh (show j<listed.size by omega)]at this c;simp only[aEr]at this c;rw[this]at c;simp at c
    .rwa [u]at hp) H
   obtain⟨ao,e9,Z⟩:=KC;refine wpOp_mono ?_ (akc (Q:=Q) p k c1 c2 c3 c4 (λF=>by have:=M i nR;rw[u]at this;exact this F) (e9.mono (K:=λad=>ad=ao) rfl));rintro a' w' ⟨bG,G',ρ',lam',aU,q1,cM,dB,Y,rfl⟩;have N:∀j d,(listed.setIfInBounds i true).getD j d=if j=i then true else listed.getD j d:=by
    intro j d;rw[aDz,aDz,aFl];by_cases h:i=j
    .subst h;simp[show i<listed.size by omega]
    .have dM:j≠i:=λe=>h e.symm;simp[h,dM]
   rw[<-aDK,<-aCR]at Z;have V:∀j,j∈l1++L->j∈l1++i::L/\j≠i:=by
    intro j g;rw[aDR]at jI;rcases aC9.1 g with h|h
    .exact⟨aCN _ h,by have:=jI.2.2 j h i az7;omega⟩
    .exact⟨aC7 _ (by simp[h]),aB7⟩
   refine ih (rem:=l1++L) ?_ aAW ?_ ?_ ?_ ?_ ?_ ⟨cM,q1,bG⟩ ⟨f.good.trans dB,λj b au=> ?_⟩ Z
   .simp only[aCF,aCU]at v⊢;omega
   .rw[aDR]at jI⊢;exact⟨jI.1,(aES.1 jI.2.1).2,λx C y aQ=>jI.2.2 x C y (by simp[aQ])⟩
   .intro j;rw[N];by_cases g:j=i
    .subst g;simp only[if_true,aFb,and_false,iff_false];intro U;exact(V j U).2 rfl
    .simp only[g,aCW];rw[<-m j];simp[g]
   .intro j h1 c;rw[N,aCV az6];exact R j h1 c
   .intro j o rE S e l au;rw[N]at S⊢;by_cases g:j=i
    .subst g;rw[J o rE e l au];simp
    .simp only[g,aCW]at S;rw[B j o rE S e l au];simp
   .intro j g F;obtain⟨h1,c⟩:=V j g;refine Y _ _ (λCr=> ?_) (M j h1 F);have:=zY j i ((m j).1 h1).1 z c F (by rw[u];omega);rw[u]at this;omega
   .have eX:=f.pre j b au;refine Y j b (λCr=> ?_) eX;have:=CJ i z (by rw[u];omega);rw[u]at this;have:=(aDA.1 au).1;omega
def aF8:=@List.pairwise_lt_range
def aEt:=@List.findIdx?_eq_some_iff_getElem
def aD6:=@List.take_append_drop
theorem aB8(h:p:=by rw[aDS];intro h;have:=aCG h;omega):p:=h
theorem b6.room(p:b6 n0 gl nt w G ρ lam a st)(n:Nat):b6 n0 gl nt w G (ρ++List.replicate n 0) lam a (st.room n):=by
 have c:∀L,e5 L L w G w G:=λ_ _ _ h=>⟨rfl,h⟩;have f:∀i b:Nat,ρ[i]?=some (b+1)->(ρ++List.replicate n 0)[i]?=some (b+1):=λi b h=>iP i _ h;refine⟨⟨λt=>(p.rel.aR t).b0 (de.refl _ _) f (λ_ _ h=>h) (c _),?_,p.rel.nb,⟨by simp[ag.room,p.rel.ob.1],?_⟩,p.rel.eU,p.rel.lt⟩,p.eT,p.sz⟩
 .intro t j au;obtain⟨b,h1,g⟩:=p.rel.bM t j au;exact⟨b,h1,dC.b0 (de.refl _ _) f (c _) (λ_=>c _) g⟩
 .intro i b o au d;rcases aDo i ρ.length with aE|aE
  .rw[aDj aE]at au;have k:i<st.s.length:=by rw[<-p.rel.ob.1];omega
   simp[ag.room]at d;rw[aDj k]at d;exact(p.rel.ob.2 i b o au d).b0 (de.refl _ _) f (c _) (λ_=>c _)
  grind
theorem KD:∀{l:List cm} {a j q:Nat},(nV l a)[j]?=some q->a<=q
 |[],_,_,_,h=>by grind[nV]
 |g::l,a,j,q,h=>by
  cases j with
  |zero=>grind[nV]
  |succ j=>
   simp[nV,aEq]at h;have:=KD h;grind
theorem Rt:∀{l:List cm} {a j q:Nat} {g:cm},(nV l a)[j]?=some q->l[j]?=some g->ic g.i=true->q<a+pP l
 |[],_,_,_,_,h,_,_=>az8
 |d::l,a,j,q,g,h,c,bn=>by
  cases j with
  |zero=>
   simp_all[nV,pP]
  |succ j=>
   simp[nV,aEq]at h;have:=Rt h az8 bn;simp[pP];grind
theorem KE:∀{l:List cm} {c i j q d:Nat} {g:cm},i<j->l[i]?=some g->ic g.i=true->(nV l c)[i]?=some q->(nV l c)[j]?=some d->q<d
 |[],_,_,_,_,_,_,_,_,_,h,_=>az8
 |m::l,c,i,j,q,d,g,k,f,bn,h,a=>by
  cases j with
  |zero=>omega
  |succ j=>
   cases i with
   |zero=>
    simp at f;subst f;simp[nV,aE6,aCz,aEq,bn,aC0]at h a;have:=KD a;omega
   |succ i=>
    simp[nV,aEq]at h a;exact KE az6 az8 bn h a
theorem Ru{ops:Array Oper}{a:List cm}{j:Nat}:∀{k:Nat} {l:List Nat},BR ops a j k=some l->∀i,i<k->∃b,IU ops a i j=some b/\(b=true->i∈l)
 |0,l,_,i,hi=>az6
 |k+1,l,h,i,hi=>by
  simp[BR]at h;split at h
  .rename_i f b h1 d;simp at h;subst h;by_cases c:i=k
   .simp_all
   .obtain⟨g,m,n⟩:=Ru h1 i az6;grind
  simp_all
theorem Rv{ops:Array Oper}{d:List cm}:∀{n:Nat} {a:List (List Nat)},BS ops d n=some a->a.length=n/\∀j,j<n->BR ops d j j=some (a.getD j [])
 |0,a,h=>by
  grind[BS]
 |n+1,a,h=>by
  simp[BS]at h;split at h
  .rename_i l c h1 k;simp at h;subst h;obtain⟨f,m⟩:=Rv h1;refine⟨by simp[f],λj o=> ?_⟩;by_cases g:j=n
   .subst g;rw[aC4,aDp az6,f];simpa using k
   .rw[aC4,aDj az6,<-aC4];exact m j az6
  .simp at h
theorem KF:∀{ts:List T} {st:ag} {K:ag->Prop},rC P gl ts st K->∀t,t∈ts->∃c d,qc P gl t.id t.g c d t.E
 |[],_,_,_,t,aK=>az8
 |x::ts,st,K,h,t,aK=>by
  obtain⟨aU,h1,a⟩:=h;rcases aCJ.1 aK with rfl|aK
  .exact⟨st,aU,h1⟩
  .exact KF a t aK
theorem ake{x y:T}(n:zt x.g y.g=true)(h:Rp x y):v8 x y:=by
 obtain⟨p,r,d,c,h⟩:=h;unfold BM at h;simp at h;obtain⟨⟨⟨⟨⟨⟨⟨h1,g⟩,j⟩,f⟩,k⟩,l⟩,o⟩,m⟩:=h;refine⟨n,λt a=> ?_,λt a=> ?_,ajz d c j f k l o m⟩
 .rw[d.k]at a;have:=s0 h1 t a;simp_all
 .rw[c.k]at a;have:=s0 g t a;simp_all
theorem akf{x y:T}(d:∃w z,qc P gl x.id x.g w z x.E)(a:∃w z,qc P gl y.id y.g w z y.E)(C:zt x.g y.g=true)(r:EE x.g y.g=true):v8 x y:=by
 obtain⟨_,_,d⟩:=d;obtain⟨_,_,a⟩:=a;have g:=C;unfold zt at g;unfold EE at r;simp at g r;obtain⟨⟨⟨m,p⟩,Q⟩,R⟩:=g;obtain⟨⟨⟨l,j⟩,M⟩,N⟩:=r;have m:=s0 m;have p:=s0 p;have l:=s0 l;have j:=s0 j;refine⟨C,λt f=>⟨λh=>l t (d.k t f) (aCN _ h),λh=>p t h (aCN _ (vZ (FZ (d.k t f))))⟩,λt f=>⟨j t (a.k t f),λh=>m t h (aCN _ (vZ (FZ (a.k t f))))⟩,?_⟩;have F:∀{X Y:iF},X.rd=[]/\X.ro=[]/\X.len=none->X.ws=[]->FP X Y:=by
  intro X Y h1 k;refine⟨λu _=> ?_,λu E=>az8,λu E=>az8,⟨λi s _ q aS=>az8,λn _=>⟨az8,az8,h1.2.2⟩⟩,⟨λi s E=>az8,λn B=>az8⟩⟩;cases u with
  |c i off v=>exact⟨az8,az8⟩
  |o i s=>exact⟨az8,az8⟩
  |n s=>exact h1.2.2
 have K:∀{X Y:iF},Y.rd=[]/\Y.ro=[]/\Y.len=none->Y.ws=[]->FP X Y:=by
  intro X Y h1 k;have:=F (Y:=X) h1 k;exact⟨this.QY,this.QX,λu _ v S=>az8,this.QZ,this.ajv⟩
 cases H:x.g.i.rs with
 |false=>
  have A:x.g.i.ws=false:=by
   grind[ajZ]
  exact F (d.r0 H) (d.w0 A).1
 |true=>
  cases L:y.g.i.rs with
  |false=>
   have A:y.g.i.ws=false:=az8;exact K (a.r0 L) (a.w0 A).1
  |true=>
   have G:x.g.i.ws=false:=az8;have J:y.g.i.ws=false:=az8;have h1:=d.w0 G;have k:=a.w0 J;exact⟨az8,az8,az8,⟨az8,λn B=>az8⟩,⟨az8,λn B=>az8⟩⟩
theorem uM{ts:List T}{i:Nat}(h:i<ts.length):ts[i]?=some (ts.getD i ⟨0,default,{}⟩):=az8
def Rx(P:Program)(gl:Nat->List D):Prop:=
 ∀{n0 nt:Nat} {l:ey} {m:fh} {c:Array Oper} {d:List cm} {f:List T} {k:Nat} {g:Array Bool} {w w0:World} {G G0:bL} {ρ ρ0:List Nat} {lam:Nat->Option Nat} {a:Act} {st:ag} {K:ag->Prop} {Q:Exit->Act->World->Prop},
  hV P l nt c m c.toList=some d->f.map (·.g)=d->sn d=some k->EO c d k=true->vF c=true->g.size=c.size->(∀i,i<c.size->(g.getD i true=true↔i<k))->
  b6 n0 gl nt w G ρ lam a st->ji w0 G0 ρ0 w G ρ->rC P gl (f.drop k) st K->(∀i j,i<j->k+3<=i->j<c.size->lu c i c.size j=true\/v8 (f.getD i ⟨0,default,{}⟩) (f.getD j ⟨0,default,{}⟩))->(∀a' w',cP n0 gl nt w0 G0 ρ0 K a' w'->Q .normal a' w')->wpAny P .any c Q (c.size-k) g a w
theorem aki{a:Type}{b:Bool}{x:Option a}{y:a}(h:(if b=true then x else none)=some y):b=true/\x=some y:=az8
theorem akj(P:Program)(gl:Nat->List D)(ai:Rx P gl):xU P gl:=by
 intro n0 nt an ay id ops m dF w G ρ lam a st K B L p hs;obtain⟨zO,L⟩:=aki L
 .simp at zO;obtain⟨⟨⟨h1,J⟩,av⟩,l⟩:=zO;obtain⟨cl,cs⟩:=Rv L;refine wp_region_any h1 ?_;obtain⟨p',r⟩:=p.drawn (w.drawn+1);have X:=p'.room (pP m);obtain⟨ts,C,k2,gU,ow⟩:=Rq (acc:=[]) (ts:=[]) av az7 rfl hs;have e8:=F1 ops.toList.length (aCw _) B;have ui:ts.length=ops.size:=az9;have z:∀i,i<ops.size->m[i]?=some (ts.getD i ⟨0,default,{}⟩).g:=az9;have u:∀i,i<ops.size->(nV m st.s.length)[i]?=some (ts.getD i ⟨0,default,{}⟩).id:=az9;have R:∀i j,i<j->j<ops.size->zz (sn m) i j=false->lu ops i ops.size j=true\/v8 (ts.getD i ⟨0,default,{}⟩) (ts.getD j ⟨0,default,{}⟩):=by
   intro i j t d A;obtain⟨b,f,s⟩:=Ru (cs j d) i t;unfold IU at f;rw[z i az6,z j d]at f;simp only[A,Bool.or_false]at f;split at f
   .simp_all
   .right;split at f
    .rename_i hH;simp only[aCz]at f;cases eI:EE (ts.getD i ⟨0,default,{}⟩).g (ts.getD j ⟨0,default,{}⟩).g with
     |true=>exact akf (KF C _ (aC8 (uM az6))) (KF C _ (aC8 (uM az6))) hH eI
     |false=>
      rw[eI]at f;obtain⟨s3,b7,cq⟩:=ow j _ (uM az6) i (s f.symm);grind[ake]
    simp_all
  have zY:∀i j,i<ops.size->j<ops.size->i≠j->ic (ts.getD i ⟨0,default,{}⟩).g.i=true->ic (ts.getD j ⟨0,default,{}⟩).g.i=true->(ts.getD i ⟨0,default,{}⟩).id≠(ts.getD j ⟨0,default,{}⟩).id:=by
   intro i j c d cd ao ar;rcases Nat.lt_or_gt_of_ne cd with h|h
   .have:=KE h (z i c) ao (u i c) (u j d);omega
   .have:=KE h (z j d) ar (u j d) (u i c);omega
  have E:∀i,i<ops.size->ic (ts.getD i ⟨0,default,{}⟩).g.i=true->ρ.length<=(ts.getD i ⟨0,default,{}⟩).id:=by
   intro i c _;rw[p.rel.ob.1];exact KD (u i c)
  have ad:∀i,i<ops.size->ic (ts.getD i ⟨0,default,{}⟩).g.i=true->(ρ++List.replicate (pP m) 0)[(ts.getD i ⟨0,default,{}⟩).id]?=some 0:=by
   intro i c v;have aA:=Rt (u i c) (z i c) v;have bh:=E i c v;rw[aDp bh,List.getElem?_replicate,aCT (by rw[p.rel.ob.1]at bh⊢;omega)]
  have Y:ji w G ρ {w with drawn:=w.drawn+1} G (ρ++List.replicate (pP m) 0):=⟨r,λi b h=>iP i b h⟩;have U:∀(n:Nat),n<=ops.size->∀i,i∈List.range n↔i<n/\(Array.replicate ops.size false).getD i true=false:=by
   intro n aq i;simp only[aDw];constructor
   .intro h;refine⟨h,?_⟩;rw[aDz];grind
   omega
  have gW:∀(n:Nat),∀i,n<=i->i<ops.size->(Array.replicate ops.size false).getD i true=false:=az9;have iT:∀(j:Nat) (o:Oper),ops[j]?=some o->(Array.replicate ops.size false).getD j true=true->∀e∈o.after.toList,Region.binds .any e=true->(Array.replicate ops.size false).getD e.on false=true:=az9;have V:∀(n:Nat),n<=ops.size->((List.range n).map λi=>ts.getD i ⟨0,default,{}⟩)=ts.take n:=by
   intro n aq;apply aEm;intro i;rw[aDC,aD0];by_cases c:i<n
   .rw[List.getElem?_range c,aCT c,uM az6];rfl
   grind
  cases aK:sn m with
  |none=>
   have A:∀i j,zz (sn m) i j=false:=λi j=>by rw[aK];rfl
   have M:∀j:Nat,∀g,m[j]?=some g->oZ g.i=false:=by
    grind[sn]
   have:=Rr (P:=P) (gl:=gl) (n0:=n0) (nt:=nt) (w0:=w) (G0:=G) (ρ0:=ρ) (K:=K .normal) (Q:=kH n0 gl nt w G ρ K) (ops:=ops) (ts:=ts) (rest:=[]) (an:=an) (n:=ops.size) ui (aCw _)
    (λi c o Z=>by
     obtain⟨m',g,f,s⟩:=KA B i o (λj _ g r=>M j g r) az9;grind[uM])
    J (λi h dM=>az6) (λi j t d=>R i j t d (A i j)) zY E
    (λ{listed w' G' ρ' lam' a' aU} cj N F H S=>by
     rw[Nat.sub_self];refine⟨?_,H.after (F.after S)⟩;unfold Region.ready;rw[List.filter_eq_nil_iff];intro i c;have:=(N i (aDw.1 c)).2 (aDw.1 c);simp[this])
    ops.size (rem:=List.range ops.size) (listed:=Array.replicate ops.size false) az7 az7 aF8 (U _ (aCw _)) (gW _) iT
    (λi c v=>ad i (aDw.1 c) v) X Y (by rw[V _ (aCw _),aDd az6,aDI];exact C)
   grind
  |some k=>
   rw[aK]at l;simp at l;have ov:=by
    unfold sn at aK;have:=(aEt.1 aK).1;rw[e8]at this;simpa using this
   have M:∀j:Nat,j<k->∀g,m[j]?=some g->oZ g.i=false:=by
    intro j d g r;unfold sn at aK;obtain⟨f,s,cM⟩:=aEt.1 aK;have:=cM j d;rw[aCB az6]at r;simp at r;rw[r]at this;simpa using this
   have A:∀i j,j<k->zz (sn m) i j=false:=by
    intro i j d;rw[aK];unfold zz;have:Nat.blt (k+2) j=false:=by
     rw[aDS];intro h;rw[aFr]at h;omega
    simp[this]
   have KB:∀i,k<=i->i<ops.size->(∀j,j<k->lu ops j ops.size i=true)\/(k<i/\lu ops k ops.size i=true):=by
    unfold EO at l;split at l
    .split at l
     .simp only[aCx,aCQ,aDw,aDY]at l;intro i c jY;by_cases Am:i=k
      .subst Am;exact .inl λj d=>l.1.1.1 j d
      .refine .inr ⟨az6,?_⟩;rcases l.1.1.2 i jY with h|h
       .have:=aCM h;omega
       .exact h
     .simp at l
    .simp at l
   have:=Rr (P:=P) (gl:=gl) (n0:=n0) (nt:=nt) (w0:=w) (G0:=G) (ρ0:=ρ) (K:=K .normal) (Q:=kH n0 gl nt w G ρ K) (ops:=ops) (ts:=ts) (rest:=ts.drop k) (an:=an) (n:=k) ui az6
    (λi c o Z=>by
     obtain⟨m',g,f,s⟩:=KA B i o (λj d g r=>M j az6 g r) (by simpa using Z);rw[z i az6]at f;simp at f;subst f;exact⟨m',_,uM az6,s⟩)
    J KB (λi j t d=>R i j t az6 (A i j d)) (λi j c d=>zY i j az6 az6) (λi c=>E i az6)
    (λ{listed w' G' ρ' lam' a' aU} cj N F H S=>ai B k2 aK l J cj N F H S (λi j t c d=>R i j t d (by
     rw[aK];unfold zz;have f:Nat.beq i (k+1)=false:=aB8;have s:Nat.beq i (k+2)=false:=aB8;simp[f,s])) λa' w' h=>h)
    k (rem:=List.range k) (listed:=Array.replicate ops.size false) az7 az7 aF8 (U _ az6) (gW _) iT
    (λi c v=>ad i (by have:=aDw.1 c;omega) v) X Y (by rw[V _ az6,aD6];exact C)
   rwa [show k+(ops.size-k)=ops.size by omega]at this
def uN(G:bL)(b:Nat):Prop:=∃L n,G b=some (L,n)/\(∀i,L≠.obj i)/\∀t,L≠.sr t
theorem uN.da{b:Nat}{s d:Loc}(h:uN G b)(f:(∀i,d≠.obj i)/\∀t,d≠.sr t):uN (da (fe s d) G) b:=by
 obtain⟨L,n,h1,a,c⟩:=h;refine⟨fe s d L,n,BX h1,?_⟩;grind[fe]
inductive Ao(P:Program)(gl:Nat->List D)(w:World)(G:bL)(ρ:List Nat)(lam:Nat->Option Nat)(a:Act)(K:ag->Prop)(o:Oper)(b:Nat):Prop
 |st (aT off:Nat) (vs:List Value) (c:Array Value) (E:TypeId) (fz:Nat×Nat) (G':bL) (aU:ag):aT≠b->o.dst=none->w.heap[aT]?=some (.cells c E fz)->off+vs.length<=c.size->
   (∀w':World,w'.heap[aT]?=some (.cells c E fz)->(execOp a.eval o).run P w'=.ok .skip (w'.setCells aT off vs))->b2 gl (w.setCells aT off vs) G' ρ lam a.tmps aU->Good w G (w.setCells aT off vs) G'->uN G' b->K aU->Ao P gl w G ρ lam a K o b
 |kv (d:Nat) (v:Value) (aU:ag):o.dst=some d->(∀w':World,(execOp a.eval o).run P w'=.ok (.value v) w')->b2 gl w G ρ lam (a.tmps.setIfInBounds d v) aU->K aU->Ao P gl w G ρ lam a K o b
theorem F4{b d off t n:Nat}{cs:List ah}{L:Loc}{LC:Nat->Loc}{x y:Operand}(j:dC w G ρ d L LC cs)(C:o.op=.store t x y)(M:a.eval x=.pointer (some ⟨d,off,none⟩))(K:(a.eval y).cells.size=n)(A:off+n<=cs.length)(p:df P t=some n)(h1:∀u∈(a.eval y).cells.toList,u.oneCell'=true)
  (k:uN G b) (H:(∃i,L=.obj i)\/∃t,L=.sr t):
  ∃(c:Array Value) (E:TypeId) (fz:Nat×Nat),d≠b/\w.heap[d]?=some (.cells c E fz)/\off+(a.eval y).cells.toList.length<=c.size/\
   ∀w':World,w'.heap[d]?=some (.cells c E fz)->(execOp a.eval o).run P w'=.ok .skip (w'.setCells d off (a.eval y).cells.toList):=by
 obtain⟨c,E,fz,g,f,r,F,J⟩:=j;refine⟨c,E,fz,?_,g,az9,λw' l=> ?_⟩
 .rintro rfl;obtain⟨m,N,z,B,s⟩:=k;simp_all
 .have:=Qw (P:=P) (w:=w') (t:=t) (v:=a.eval y) (off:=off) l f az6 az8 h1;grind[execOp,Sem.run_bind,Result.andThen_ok,Sem.run_pure]
theorem akn{t tb off n t1 t2 b:Nat}{x y:Operand}{Q X:O}(p:b6 n0 gl nt w G ρ lam a st)(l:uN G b)(N:o.dst=none)(M:o.op=.store t x y)(ai:bW P t1 x=some Q)(Z:bW P t2 y=some X)
  (J:df P t=some n) (d:step (bA P gl) gl (.ls Q tb off X n) st K):Ao P gl w G ρ lam a K o b:=by
 obtain⟨fC,F⟩:=dY ai p.rel;simp[step]at d;split at d
 .rename_i f k cs aj m;obtain⟨H,d⟩:=d;simp only[aCx]at H;obtain⟨⟨⟨⟨Y,bg⟩,V⟩,U⟩,fW⟩:=H;obtain rfl:f=tb:=aCG Y;obtain rfl:k=off:=aCG bg;have V:=aCG V;rw[aj]at F;obtain⟨cr,au,S⟩:=F;obtain⟨ad,A,R⟩:=p.rel.bM f cs m;rw[A]at au;simp at au;subst au;rcases E7 p Z fW with⟨hk,bx,h1⟩|⟨s,z,rfl,fK,hk,gX,jD,h1,jf⟩
  .have u:(a.eval y).cells.size=n:=by grind[Array.length_toList,cu.length]
   obtain⟨c,E,B,C,r,g,j⟩:=F4 R M S u (aCM U) J h1 l (.inr ⟨_,rfl⟩);obtain⟨dn,v⟩:=b2.Jg p.rel m A bx;rw[hk]at d;exact .st _ _ _ c E B G _ C N r g j dn v l d
  .have u:(a.eval y).cells.size=n:=by grind[Array.length_toList]
   obtain⟨c,E,B,C,r,g,j⟩:=F4 R M S u (aCM U) J az8 l (.inr ⟨_,rfl⟩);have lA:=p.rel.E8 (s:=s) (L:=.sq f k);have xC:=by
    have:=o1 (w:=w) (G:=G) (fe (.slot s) (.sq f k)) (.slot s);rw[tS]at this;exact jf.b0 (kz _) (λ_ _ h=>h) this
   obtain⟨dn,v⟩:=b2.Jf (off:=k) lA (show(st.set s .undef).bM f=some cs from m) A xC;rw[hk,gX]at d;rw[jD]at g j;exact .st _ _ _ c E B _ _ C N r g j dn ((q6 p.rel.lt az7 az7).trans v) (l.da ⟨az7,az7⟩) d
 .exact d.elim
theorem ako{t n t1 t2 mA:Nat}{x y:Operand}{J S:O}(p:b6 n0 gl nt w G ρ lam a st)(k:uN G mA)(H:o.dst=none)(F:o.op=.store t x y)(V:bW P t1 x=some J)(U:bW P t2 y=some S)
  (C:df P t=some n) (d:step (bA P gl) gl (.hs J S n) st K):Ao P gl w G ρ lam a K o mA:=by
 obtain⟨fC,A⟩:=dY V p.rel;simp only[step]at d;split at d
 .rename_i i off X;rw[X]at A;have N:=A;obtain⟨b,au,g⟩:∃b,ρ[i]?=some (b+1)/\a.eval x=.pointer (some ⟨b,off,none⟩):=by
   cases g:a.eval x<;>rw[g]at N<;>cases N;simp_all
  split at d
  .rename_i cs aC;obtain⟨B,d⟩:=d;simp only[aCx]at B;obtain⟨⟨R,Q⟩,Z⟩:=B;have R:=aCG R;have M:=aBG;rcases E7 p U Z with⟨hk,Y,h1⟩|⟨s,z,rfl,fK,hk,gX,jD,h1,jf⟩
   .have m:(a.eval y).cells.size=n:=by grind[Array.length_toList,cu.length]
    obtain⟨c,E,u,v,l,f,j⟩:=F4 M F g m (aCM Q) C h1 k (.inl ⟨_,rfl⟩);obtain⟨dn,r⟩:=b2.B8 au p.rel aC Y;rw[hk]at d;exact .st _ _ _ c E u G _ v H l f j dn r k d
   .have m:(a.eval y).cells.size=n:=by grind[Array.length_toList]
    obtain⟨c,E,u,v,l,f,j⟩:=F4 M F g m (aCM Q) C az8 k (.inl ⟨_,rfl⟩);have lA:=p.rel.E8 (s:=s) (L:=.dk i off);have xC:=by
     have:=o1 (w:=w) (G:=G) (fe (.slot s) (.dk i off)) (.slot s);rw[tS]at this;exact jf.b0 (kz _) (λ_ _ h=>h) this
    obtain⟨dn,r⟩:=b2.Jh (off:=off) lA (show(st.set s .undef).s.getD i .dead=.box cs from aC) au xC;rw[hk,gX]at d;rw[jD]at f j;exact .st _ _ _ c E u _ _ v H l f j dn ((q6 p.rel.lt az7 az7).trans r) (k.da ⟨az7,az7⟩) d
  .exact d.elim
 .exact d.elim
theorem akp{d f mA:Nat}{x:Operand}{z:O}{t E n:Nat}{A:Array Field}{m:Field}(p:b6 n0 gl nt w G ρ lam a st)(r:o.dst=some d)(C:d<nt)(J:o.op=.fieldAddr t x f)(B:bW P E x=some z)
  (Q:P.underlying t=some (.struct A)) (L:A[f]?=some m) (F:df P m.type=some n) (N:0<n) (j:step (bA P gl) gl (.gJ d z m.offset) st K):Ao P gl w G ρ lam a K o mA:=by
 obtain⟨M,h1⟩:=dY B p.rel;have v:=aC2 C p.sz;have u:∀b g,a.eval x=.pointer (some ⟨b,g,none⟩)->∀w:World,(execOp a.eval o).run P w=.ok (.value (.pointer (some ⟨b,g+m.offset,none⟩))) w:=by
  intro b g R w;have H:¬n=0:=az6;simp_all[execOp,Instr.fieldAt,eN,Instr.sureAddr,fieldPlace,kA,aDv]
 simp[step]at j;split at j
 .rename_i i g k;rw[k]at h1;have l:=h1;obtain⟨b,au,c⟩:∃b,ρ[i]?=some (b+1)/\a.eval x=.pointer (some ⟨b,g,none⟩):=by
   cases c:a.eval x<;>rw[c]at l<;>cases l;simp_all
  exact .kv d _ _ r (u _ _ c) (p.rel.set v (.cz (.ptr _ _ _ au))) j
 .rename_i s g k;rw[k]at h1;obtain⟨b,au,c⟩:=h1;exact .kv d _ _ r (u _ _ c) (p.rel.set v (show dq w G ρ lam _ _ (.dw s (g+m.offset))from⟨b,au,rfl⟩)) j
 .rename_i cs g k;rw[k]at h1;have l:=h1.je;cases c:a.eval x<;>rw[c]at l<;>cases l;rename_i b base vs az aA;exact .kv d _ _ r (u _ _ c) (p.rel.set v (.cz (.d _ _ aBA))) j
 .exact j.elim
theorem akq{b a d c:Nat}{v u:Value}(h:b≠a)(w:World):(w.setCell ⟨b,d,none⟩ v).setCell ⟨a,c,none⟩ u=(w.setCell ⟨a,c,none⟩ u).setCell ⟨b,d,none⟩ v:=by
 simp only[World.setCell];congr 1;grind
theorem RC{b a d:Nat}{u:Value}(h:b≠a):∀{us:List Value} {c:Nat} {w:World},(w.setCells b c us).setCell ⟨a,d,none⟩ u=(w.setCell ⟨a,d,none⟩ u).setCells b c us
 |[],_,_=>rfl
 |v::us,c,w=>by
  simp[World.setCells];rw[RC h,akq h]
theorem RD{b a:Nat}(h:b≠a){us:List Value}{d:Nat}:∀{vs:List Value} {c:Nat} {w:World},(w.setCells b d us).setCells a c vs=(w.setCells a c vs).setCells b d us
 |[],_,_=>rfl
 |v::vs,c,w=>by
  simp[World.setCells];rw[RC h,RD h]
theorem KJ{b a:Nat}(h:a≠b):∀{us:List Value} {c:Nat} {w:World},(w.setCells b c us).heap[a]?=w.heap[a]?
 |[],_,_=>rfl
 |v::us,c,w=>by
  simp[World.setCells];rw[KJ h];simp[World.setCell,aEl];simp[aCP h]
theorem akr{an:ey}{m:fh}{j:I}{b:Nat}(p:b6 n0 gl nt w G ρ lam a st)(C:uN G b)(h:rq P an m o j)(z:kX nt o=true)
  (k:(∃t s f,o.op=.fieldAddr t (.tmp s) f)\/(∃t s x,o.op=.store t (.tmp s) x)) (r:step (bA P gl) gl j st K):Ao P gl w G ρ lam a K o b:=by
 rcases h with h|rfl
 .rcases k with⟨t,s,f,g⟩|⟨t,s,x,g⟩
  .obtain⟨d,c⟩:∃d,o.dst=some d:=by
    cases c:o.dst with
    |none=>simp_all[jA]
    |some d=>simp
   simp[jA,g,c]at h;have B:d<nt:=aBk;split at h
   .rename_i fs hu;split at h
    .rename_i l v;split at h
     .rename_i aM;simp at h;obtain⟨A,u,rfl⟩:=h;cases E:df P l.type with
      |none=>simp_all
      |some n=>
       grind[akp]
     simp_all
    simp_all
   simp_all
  .have c:o.dst=none:=by
    cases c:o.dst with
    |none=>rfl
    |some d=>simp_all[jA]
   simp[jA,g,c,aDt,aCL]at h;grind[akn,ako]
 .exact r.elim
theorem least{f:Nat->Bool}:∀(n:Nat),(∃i,i<n/\f i=false)->∃i,i<n/\f i=false/\∀j,j<i->f j=true
 |0,h=>az6
 |n+1,h=>by
  by_cases h1:∃i,i<n/\f i=false
  .obtain⟨i,c,a⟩:=least n h1;exact⟨i,az6,a⟩
  .obtain⟨i,c,a⟩:=h;have k:i=n:=by
    rcases aDo i n with h|h
    .exact absurd ⟨i,h,a⟩ h1
    .omega
   subst k;refine⟨i,c,a,λj d=> ?_⟩;cases g:f j with
   |true=>rfl
   |false=>exact absurd ⟨j,d,g⟩ h1
theorem KL{ops:Array Oper}{listed:Array Bool}(i:Nat):i∈Region.ready .any ops listed↔(i<ops.size/\listed.getD i true=false)/\∀o,ops[i]?=some o->∀e∈o.after.toList,Region.binds .any e=true->listed.getD e.on false=true:=by
 unfold Region.ready;rw[aET,aDw];constructor
 .rintro⟨h1,a⟩;simp only[aCx,aCX]at a;refine⟨⟨h1,a.1⟩,λo d e f au=> ?_⟩;have c:=a.2;rw[d]at c;simp only[aDD,aEr,aF7,aDY,aCX]at c;grind
 grind
theorem RE{ops:Array Oper}{listed:Array Bool}(a:vF ops=true)(j:listed.size=ops.size)(h:∃i,i<ops.size/\listed.getD i true=false):Region.ready .any ops listed≠[]:=by
 obtain⟨i,h1,c,f⟩:=least ops.size h;have l:=by
  refine(KL i).2 ⟨⟨h1,c⟩,λo g e k au=> ?_⟩;unfold vF at a;have d:=aCQ.1 a i (aDw.2 h1);grind[Nat.blt_eq]
 grind
theorem Ap{d t:Nat}{v:Value}(h:t≠d):(a.put (some d) v).tmps.getD t undef=a.tmps.getD t undef:=by
 simp_all[Act.put,aCP]
def aFv:=@false_iff
theorem aks{an:ey}{m:fh}{g:I}(h:rq P an m o g)
  (j:(∃t s f,o.op=.fieldAddr t (.tmp s) f)\/(∃t s x,o.op=.store t (.tmp s) x)):ic g=false:=by
 rcases h with h|rfl
 .rcases j with⟨t,s,f,c⟩|⟨t,s,x,c⟩
  .obtain⟨d,a⟩:∃d,o.dst=some d:=by
    cases a:o.dst with
    |none=>simp_all[jA]
    |some d=>simp
   simp[jA,c,a]at h;split at h
   .split at h
    .split at h
     .obtain⟨u,p,rfl⟩:=h;rfl
     simp_all
    simp_all
   simp_all
  .have a:o.dst=none:=by
    cases a:o.dst with
    |none=>rfl
    |some d=>simp_all[jA]
   simp[jA,c,a,aDt,aCL]at h;obtain⟨n,r,y,l,z,k,h⟩:=h;split at h
   .simp at h;subst h;rfl
   .simp at h;subst h;rfl
 .rfl
theorem RF{xo:Operand}{q:Nat}{v:Value}(h:∀c,xo=.tmp c->q≠c):(a.put (some q) v).eval xo=a.eval xo:=eval_put (λc aS=>aCP (h c aS))
theorem akt{ops:Array Oper}{ts:List T}{an:ey}{k d e i0 b pos:Nat}{Y eM:Oper}{xo:Operand}{v1 v2 vi vx:Value}{us:List Value}{c1:Array Value}{E:TypeId}{fz:Nat×Nat}
  (nf:vF ops=true) (lU:ops[k+1]?=some Y) (fk:Y.guard=none) (k7:Y.dst=some e) (ru:ops[k+2]?=some eM) (mY:eM.guard=none) (FT:eM.dst=none) (he:e<nt)
  (p9:∀(a':Act) (w':World),a'.tmps.getD d undef=v1->a'.tmps.getD i0 undef=vi->(execOp a'.eval Y).run P w'=.ok (.value v2) w')
  (FF:∀(a':Act) (w':World),a'.tmps.getD e undef=v2->a'.eval xo=vx->w'.heap[b]?=some (.cells c1 E fz)->(execOp a'.eval eM).run P w'=.ok .skip (w'.setCells b pos us))
  (aM:d≠e) (aP:i0≠e) (KM:∀q,xo=.tmp q->e≠q) (aZ:lu ops (k+1) ops.size (k+2)=true)
  (sB:∀i,k+3<=i->i<ops.size->∀o,ops[i]?=some o->∃m' t,ts[i]?=some t/\rq P an m' o t.g.i/\t.g.g=none/\o.guard=none/\kX nt o=true/\t.g.i.dst=o.dst/\
   ((∃t s f,o.op=.fieldAddr t (.tmp s) f)\/(∃t s x,o.op=.store t (.tmp s) x))/\
   (∀q,o.dst=some q->d≠q/\i0≠q/\e≠q/\∀q',xo=.tmp q'->q≠q')/\e∉t.g.rd)
  (uL:∀i j,i<j->k+3<=i->j<ops.size->lu ops i ops.size j=true\/v8 (ts.getD i ⟨0,default,{}⟩) (ts.getD j ⟨0,default,{}⟩))
  (aN:∀a' w',cP n0 gl nt w0 G0 ρ0 K a' w'->Q .normal a' w'):∀(r:Nat) {rem:List Nat} {ph:Nat} {listed:Array Bool} {w wv:World} {G:bL} {a:Act} {st:ag},
  rem.length+(2-ph)=r->ph<=2->listed.size=ops.size->rem.Pairwise (·< ·)->
  (∀i,i<ops.size->(listed.getD i true=false↔i∈rem\/(i=k+1/\ph<1)\/(i=k+2/\ph<2)))->(∀i,i∈rem->k+3<=i/\i<ops.size)->
  (∀(j:Nat) (o:Oper),ops[j]?=some o->listed.getD j true=true->∀e∈o.after.toList,Region.binds .any e=true->listed.getD e.on false=true)->
  b6 n0 gl nt wv G ρ lam a st->ji w0 G0 ρ0 wv G ρ->uN G b->(ph<2->wv=w.setCells b pos us/\w.heap[b]?=some (.cells c1 E fz))->(ph=2->wv=w)->
  a.tmps.getD d undef=v1->a.tmps.getD i0 undef=vi->a.eval xo=vx->(ph=1->a.tmps.getD e undef=v2)->st.aR e=.undef->
  rC P gl (rem.map (λi=>ts.getD i ⟨0,default,{}⟩)) st K->wpAny P .any ops Q r listed a w:=by
 have eZ:=(aC'.1 lU).1;have ho:=(aC'.1 ru).1;intro r;induction r with
 |zero=>
  intro rem ph listed w wv G a st aA KN cj jI l m iT p f L J M Z xR R S U H;have:rem=[]:=List.eq_nil_of_length_eq_zero az6;subst this;have bh:ph=2:=az6;have bk:=M bh;subst bk;refine⟨?_,aN _ _ (f.after (p.after H))⟩;unfold Region.ready;rw[List.filter_eq_nil_iff];intro i u;have u:=aDw.1 u;cases aE:listed.getD i true with
  |true=>simp
  |false=>
   rcases(l i u).1 aE with h|⟨_,h⟩|⟨_,h⟩
   .simp at h
   .omega
   .omega
 |succ r ih=>
  intro rem ph listed w wv G a st aA KN cj jI l m iT p f L J M Z xR R S U H;have jh:∀i,i<ops.size->∀j d,(listed.setIfInBounds i true).getD j d=if j=i then true else listed.getD j d:=by
   intro i u j d;by_cases h:i=j
   .subst h;simp[show i<listed.size by omega]
   .have dM:j≠i:=λe=>h e.symm;simp[h,dM]
  have zZ:∀i,i<ops.size->(∀o,ops[i]?=some o->∀e∈o.after.toList,Region.binds .any e=true->listed.getD e.on false=true)->∀(j:Nat) (o:Oper),ops[j]?=some o->(listed.setIfInBounds i true).getD j true=true->∀e∈o.after.toList,Region.binds .any e=true->(listed.setIfInBounds i true).getD e.on false=true:=by
   intro i u z j o rE rF e he au;rw[jh i u]at rF⊢;by_cases g:j=i
   .subst g;rw[z o rE e he au];simp
   .simp only[g,aCW]at rF;rw[iT j o rE rF e he au];simp
  refine⟨λud=> ?_,λi u=> ?_⟩
  .refine absurd ud (RE nf cj ?_);by_cases n:ph<2
   .exact⟨k+2,ho,(l _ ho).2 (.inr (.inr ⟨rfl,n⟩))⟩
   .cases rem with
    |nil=>simp at aA;omega
    |cons j rem=>
     have:=m j az7;exact⟨j,this.2,(l j this.2).2 (.inl az7)⟩
  .obtain⟨⟨B,e8⟩,z⟩:=(KL i).1 u;have C:=aDh B;rcases(l i B).1 e8 with nR|⟨rfl,h1⟩|⟨rfl,n⟩
   ·
    obtain⟨l1,A,rfl⟩:=List.append_of_mem nR;have F8:=m i nR;obtain⟨m',t,aF,RG,c2,c3,c4,c5,eA,bQ,eQ⟩:=sB i F8.1 B _ C;have lW:ts.getD i ⟨0,default,{}⟩=t:=by rw[aC4,aF];rfl
    rw[aCR,aDe,lW]at H;have KC:=Kz (l1:=l1.map λi=>ts.getD i ⟨0,default,{}⟩) (λx V=>by
     simp at V;obtain⟨j,g,rfl⟩:=V;have uq:j∈l1++i::A:=aCN _ g;have RH:=m j uq;have N:=by
      rw[aDR]at jI;exact jI.2.2 j g i az7
     rcases uL j i N RH.1 B with hp|hp
     .exfalso;have:=x2 iT ops.size i _ C (z _ C) hp;have n:=(l j RH.2).2 (.inl uq);rw[aDz,aDh (show j<listed.size by omega)]at this n;simp at this n;rw[this]at n;simp at n
     .rwa [lW]at hp) H
    obtain⟨ad,e9,k3⟩:=KC;rw[<-aCR]at k3;have bm:=by
     have:=e9.mono (K:=λs=>s=ad) rfl;unfold kV at this;rw[aks RG eA]at this;simp at this;unfold step1 at this;rw[c2]at this;omega
    have RI:ad.aR e=.undef:=by
     rw[e9.aR e (λh=> ?_) (λh=>eQ (vZ (FZ (e9.k e h))))]
     .omega
     .rcases Rh h with h|h
      .rw[c5]at h;exact(bQ e h).2.2.1 rfl
      .exact eQ (vZ h)
    have Al:∀j,j∈l1++A->j∈l1++i::A/\j≠i:=by
     intro j g;rw[aDR]at jI;rcases aC9.1 g with h|h
     .exact⟨aCN _ h,by have:=jI.2.2 j h i az7;omega⟩
     .exact⟨aC7 _ (by simp[h]),aB7⟩
    have RJ:(l1++A).Pairwise (·< ·):=by
     rw[aDR]at jI⊢;exact⟨jI.1,(aES.1 jI.2.1).2,λx V y aQ=>jI.2.2 x V y (by simp[aQ])⟩
    have uf:(l1++A).length+(2-ph)=r:=by simp at aA⊢;omega
    have RL:∀j,j<ops.size->((listed.setIfInBounds i true).getD j true=false↔j∈l1++A\/(j=k+1/\ph<1)\/(j=k+2/\ph<2)):=by
     intro j g;rw[jh i B];by_cases N:j=i
     .subst N;simp only[if_true,aFb,aFv,not_or];exact⟨λh=>(Al j h).2 rfl,λh=>az6,λh=>az6⟩
     .simp only[N,aCW];rw[l j g];simp[N]
    cases akr p L RG c4 eA bm with
    |st aT off vs c ub pY G' aU q1 bG cM dB gE jW pb p7 rm=>
     subst rm;have ao:w.heap[aT]?=some (.cells c ub pY):=by
      rcases aDo ph 2 with h|h
      .rw[<-cM,(J h).1,KJ q1]
      .rw[<-M az6];omega
     refine J7 C c3 (gE w ao) ?_;rw[bG];refine ih (rem:=l1++A) (ph:=ph) (wv:=wv.setCells aT off vs) uf KN aAW RJ RL (λj g=>m j (Al j g).1) (zZ i B z) ⟨jW,p.eT.good pb,p.sz⟩ ⟨f.good.trans pb,f.pre⟩ p7 (λh=> ?_) (λh=>by rw[M h]) Z xR R S RI k3;obtain⟨h1,n⟩:=J h;exact⟨by rw[h1,RD (aCP q1)],by rw[KJ (aCP q1)];omega⟩
    |kv q v aU q1 bG cM dB=>
     subst dB;obtain⟨bq,s4,b3,iH⟩:=bQ q q1;refine Cx C c3 (bG w) ?_;rw[q1];refine ih (rem:=l1++A) (ph:=ph) (wv:=wv) uf KN aAW RJ RL (λj g=>m j (Al j g).1) (zZ i B z) ⟨cM,p.eT,aAe⟩ f L J M (by rw[Ap bq];omega) (by rw[Ap s4];omega) (by rw[RF iH];omega) (λh=>by rw[Ap b3];exact S h) RI k3
   ·
    have ar:ph=0:=az6;subst ar;refine Cx lU fk (p9 a w Z xR) ?_;rw[k7];have sT:=aC2 he p.sz;have eC:st.set e .undef=st:=by
     obtain⟨aR,bM,s⟩:=st;simp[ag.set,ag.mk.injEq,aE'];funext t;simp[dm];by_cases h:t=e
     .subst h;simp;exact U.symm
     .simp[h]
    have dn:=by
     have:=p.rel.set (v:=v2) (x:=.undef) sT (.cz (.undef _));rwa [eC]at this
    refine ih (rem:=rem) (ph:=1) (wv:=wv) az6 az6 aAW jI (λj g=> ?_) m (zZ _ eZ z) ⟨dn,p.eT,aAe⟩ f L (λ_=>J az6) (λh=>az6) (by rw[Ap aM];omega) (by rw[Ap aP];omega) (by rw[RF KM];omega) (λ_=>by rw[rr sT,aCT rfl]) U H;rw[jh _ eZ];by_cases F:j=k+1
    .subst F;simp only[if_true,aFb,aFv,not_or];exact⟨λh=>by have:=m _ h;omega,λh=>az6,λh=>az6⟩
    .simp only[F,aCW];rw[l j g];simp[F]
   ·
    have aB:ph=1:=by
     rcases aDo ph 1 with h|h
     .exfalso;have:=x2 iT ops.size _ _ C (z _ C) aZ;have X:=(l _ eZ).2 (.inr (.inl ⟨rfl,h⟩));rw[aDz,aDh (show k+1<listed.size by omega)]at this X;simp at this X;rw[this]at X;simp at X
     .omega
    subst aB;obtain⟨aj,aC⟩:=J az6;refine J7 ru mY (FF a w (S rfl) R aC) ?_;rw[FT,<-aj];refine ih (rem:=rem) (ph:=2) (wv:=wv) az6 az6 aAW jI (λj g=> ?_) m (zZ _ ho z) p f L (λh=>az6) (λ_=>rfl) Z xR R (λh=>az6) U H;rw[jh _ ho];by_cases F:j=k+2
    .subst F;simp only[if_true,aFb,aFv,not_or];exact⟨λh=>by have:=m _ h;omega,λh=>az6,λh=>az6⟩
    .simp only[F,aCW];rw[l j g];simp[F]
theorem akD{an:ey}{m:fh}{i:I}(h:jA P an m o=some i):oZ i=false:=by
 cases hi:oZ i with
 |false=>rfl
 |true=>
  unfold jA at h;split at h;all_goals
   (repeat' (first
    |(simp[aDt,aCL,aDr,aCz,reduceCtorEq]at h)
    |(obtain⟨_,_,h⟩:=h)
    |(done)
    |(exact h.elim)
    |(unfold zy at h)
    |(split at h)))
  all_goals grind[oZ]
theorem RM{an:ey}{u:Array Oper}:∀{k:Nat} {l:List Oper} {m:fh} {a:List cm},hV P an nt u m l=some a->(∀j,j<k->∀g,a[j]?=some g->oZ g.i=false)->(∀g,a[k]?=some g->oZ g.i=true)->k<a.length->
  ∃r c f d n e m' p,l[k]?=some r/\l[k+1]?=some c/\l[k+2]?=some f/\BQ P an r c f=some (d,n,e)/\d<nt/\e<nt/\a.drop k=⟨none,n⟩::⟨none,.me (some e)⟩::⟨none,.me none⟩::p/\hV P an nt u m' (l.drop (k+3))=some p
 |k,[],m,a,h,_,_,aE=>by
  grind[hV]
 |k,o::l,m,a,h,aq,hk,aE=>by
  rcases vS h with⟨g,p,h1,v,rfl⟩|⟨c,f,J,d,n,e,p,rfl,ai,B,he,v,rfl⟩
  .cases k with
   |zero=>
    have:=hk g rfl;obtain⟨c1,_⟩:=xT h1;rcases c1 with c1|c1
    all_goals grind[akD,oZ]
   |succ k=>
    obtain⟨r,c,f,d,n,e,m',A,S,K,L,C,E,F,R,Q⟩:=RM (k:=k) v (λj G t w=>aq (j+1) az6 t az8) (λt w=>hk t az8) az8;exact⟨r,c,f,d,n,e,m',A,az8,az8,az8,C,E,F,az8,az8⟩
  .cases k with
   |zero=>exact⟨o,c,f,d,n,e,m,p,rfl,rfl,rfl,ai,B,he,rfl,az8⟩
   |succ k=>
    obtain⟨s,z,M,y,U,H,rfl,N⟩:=vQ ai;have:=aq 0 az6 _ rfl;grind[oZ]
theorem RN{an:ey}{j:Array Oper}:∀{l:List Oper} {m:fh} {c:List cm},hV P an nt j m l=some c->(∀o,o∈l->(∃t s f,o.op=.fieldAddr t (.tmp s) f)\/(∃t s x,o.op=.store t (.tmp s) x))->∀(i:Nat) (o:Oper),l[i]?=some o->
  ∃m' g,c[i]?=some g/\rq P an m' o g.i/\pS j o=some g.g/\kX nt o=true/\g.i.dst=o.dst
 |[],m,c,h,_,i,o,a=>az8
 |o::l,m,c,h,hp,i,E,a=>by
  rcases vS h with⟨g,w,h1,k,rfl⟩|⟨cO,M,H,d,ins,e,w,rfl,ai,K,he,k,rfl⟩
  .cases i with
   |zero=>
    simp at a;subst a;obtain⟨n,p,r,v⟩:=xT h1;exact⟨m,g,rfl,n,p,r,v⟩
   |succ i=>
    obtain⟨m',F,B,C⟩:=RN k (λo a=>hp o (by simp[a])) i E (by simpa using a);exact⟨m',F,by simpa using B,C⟩
  .obtain⟨s,z,N,y,S,G,rfl,A⟩:=vQ ai;obtain⟨t,u,J,L,R,x,U,Q,_⟩:=A.ex;simp_all
def aF9:=@List.mem_range'_1
theorem akF{aR:Array Value}{e:Nat}:aR.setIfInBounds e (aR.getD e undef)=aR:=by
 apply Array.ext_getElem?;intro j;rw[aDz,aFl];grind
theorem akG(P:Program)(gl:Nat->List D):Rx P gl:=by
 intro n0 nt an bm c r ts k u w w0 G G0 ρ ρ0 lam a st K Q az fK o8 F Y cj qd p f hs uL aN;have e8:=F1 c.toList.length (aCw _) az;have ui:ts.length=c.size:=az9;have ad:=aEt.1 (show r.findIdx? (λg=>oZ g.i)=some k from o8);obtain⟨ov,aU,CL⟩:=ad;have L:k<c.size:=az9;obtain⟨cR,cO,eM,d,bh,e,m',gb,l1,l2,eO,ai,bk,he,ao,uG⟩:=RM (k:=k) az (λj m g aF=>az9) (λg aF=>by
   simp_all) ov
 obtain⟨s,z,i0,y,sz,b',rfl,jg⟩:=vQ ai;have zR:c[k]?=some cR:=az8;have lU:c[k+1]?=some cO:=az8;have ru:c[k+2]?=some eM:=az8;have ho:=(aC'.1 ru).1;have Z:∀j,r[k+j]?=(r.drop k)[j]?:=λj=>az7;have rD:r[k]?=some ⟨none,.ln d s z i0 y sz b'⟩:=by have:=Z 0;simp_all
 have mX:r[k+1]?=some ⟨none,.me (some e)⟩:=az8;have jY:r[k+2]?=some ⟨none,.me none⟩:=by have:=Z 2;simp_all
 unfold EO at F;rw[rD]at F;rw[mX]at F;simp only[aCx,aCQ,aDw,aDY]at F;obtain⟨⟨⟨t1,t2⟩,t3⟩,t4⟩:=F;have qe:∀j,k+3<=j->∀o g,c[j]?=some o->r[j]?=some g->EN e (e::d::s::z::i0::y.slots) o g=true:=by
  intro j m o g V aF;rcases t4 j (aC'.1 V).1 with h|h
  .grind[Nat.blt_eq]
  simp_all
 have C:∀i,i<c.size->r[i]?=some (ts.getD i ⟨0,default,{}⟩).g:=by
  intro i X;rw[<-fK,aDC,uM az6];rfl
 have x5:∀o g,EN e (e::d::s::z::i0::y.slots) o g=true->o.guard=none/\e∉g.rd/\(∀q,o.dst=some q->q∉e::d::s::z::i0::y.slots)/\((∃t s f,o.op=.fieldAddr t (.tmp s) f)\/(∃t s x,o.op=.store t (.tmp s) x)):=by
  intro o g h;unfold EN at h;simp at h;obtain⟨⟨⟨h1,n⟩,A⟩,B⟩:=h;have ar:∀{i:Nat} {l:List Nat},du i l=false->i∉l:=λh hm=>by rw[p4.2 hm]at h;grind
  refine⟨h1,ar n,λq aS=> ?_,?_⟩
  .simp_all
  .split at B
   .rename_i t s f bE;exact .inl ⟨t,s,f,bE⟩
   .rename_i t s x bE;exact .inr ⟨t,s,x,bE⟩
   .simp at B
 have eZ:c.size-k=(c.size-(k+1))+1:=az6;rw[eZ];have R:∀i,i<c.size->(u.getD i true=false↔k<=i):=by
  intro i X;have:=qd i X;cases H:u.getD i true with
  |true=>simp;have:=this.1 H;omega
  |false=>
   simp;rcases aDo i k with h|h
   .rw[this.2 h]at H;simp at H
   .exact h
 have iT:∀(j:Nat) (o:Oper),c[j]?=some o->u.getD j true=true->∀e∈o.after.toList,Region.binds .any e=true->u.getD e.on false=true:=by
  intro j o N H q aS au;have m:j<c.size:=(aC'.1 N).1;have wb:=(qd j m).1 H;unfold vF at Y;have B:=aCQ.1 Y j (aDw.2 m);rw[N]at B;simp only[aCQ,aDY,aCX]at B;have bN:q.on<j:=by
   rcases B q aS with h|h
   .rw[au]at h;simp at h
   .simpa [aFr]using h
  have cT:=(qd q.on az6).2 az6;rw[aDz,aDh (show q.on<u.size by omega)]at cT⊢;exact cT
 refine⟨λud=>absurd ud (RE Y cj ⟨k,L,(R k L).2 (aCw _)⟩),λi X=> ?_⟩;obtain⟨⟨U,rG⟩,iR⟩:=(KL i).1 X;have Am:i=k:=by
  have h1:=(R i U).1 rG;rcases aDo k i with h|h
  .exfalso;rcases t2 i U with n|n
   .have:=aCM n;omega
   .have:=x2 iT c.size i _ (aDh U) (iR _ (aDh U)) n;have A:=(R k L).2 (aCw _);rw[aDz,aDh (show k<u.size by omega)]at this A;simp at this A;rw[this]at A;simp at A
  .omega
 subst Am;have Aq:ts.drop i=ts.getD i ⟨0,default,{}⟩::ts.getD (i+1) ⟨0,default,{}⟩::ts.getD (i+2) ⟨0,default,{}⟩::ts.drop (i+3):=by
  have step:∀j,j<c.size->ts.drop j=ts.getD j ⟨0,default,{}⟩::ts.drop (j+1):=λj m=>by
   rw[aEK az6,aC4,aCB az6];rfl
  rw[step i L,step (i+1) az6,step (i+2) ho]
 rw[Aq]at hs;obtain⟨s1,fw,s2,eY,kK,fa,k3⟩:=hs;have g0:(ts.getD i ⟨0,default,{}⟩).g=⟨none,.ln d s z i0 y sz b'⟩:=by have:=C i L;rw[rD]at this;simpa using this.symm
 have g1:(ts.getD (i+1) ⟨0,default,{}⟩).g=⟨none,.me (some e)⟩:=by have:=C (i+1) az6;rw[mX]at this;simpa using this.symm
 have g2:(ts.getD (i+2) ⟨0,default,{}⟩).g=⟨none,.me none⟩:=by have:=C (i+2) ho;rw[jY]at this;simpa using this.symm
 have b7:step (bA P gl) gl (.ln d s z i0 y sz b') st (λq=>q=s1):=by have:=fw.mono (K:=λq=>q=s1) rfl;rw[g0]at this;exact this
 have cq:s1.dQ (some e) .undef=s2:=by have:=eY.mono (K:=λq=>q=s2) rfl;rw[g1]at this;exact this
 have dG:s2.dQ none .undef=kK:=by have:=fa.mono (K:=λq=>q=kK) rfl;rw[g2]at this;exact this
 obtain⟨v1,v2,w1,b,pos,us,xo,bZ,G',aR,c1,E,fz,nh,bP,cp,cy,kG,pc,uz,x6,Ar,CM,F'⟩:=FE p jg b7;obtain⟨n4,hy,jG,sS⟩:=FJ jg nh;obtain⟨t,bn,bT,bt,sR,x,KP,q1,bG,cM,dB,gE,jW,pb,p7,rm,_,_,_,_,_,RO,_⟩:=jg.ex;have aB:xo=x:=by
  rw[pb]at nh;have:x=xo:=by simpa [Op.operands]using nh
  exact this.symm
 have iU:d<a.tmps.size:=aC2 bk p.sz;have sT:e<a.tmps.size:=aC2 he p.sz;have aM:∀M,xo=.tmp M->M∈y.slots:=by
  intro M aS;rw[aB]at aS;subst aS;simp[bW,aCz]at RO;rw[<-RO];simp[O.slots]
 refine Cx zR cM bP ?_;rw[bG];have h1:=x6.set iU CM;have dn:b2 gl (w1.setCells b pos us) G' ρ lam (a.put (some d) v1).tmps kK:=by
  have n:=h1.set (d:=e) (v:=(a.tmps.setIfInBounds d v1).getD e undef) (x:=.undef) (by simpa using sT) (.cz (.undef _));rw[akF]at n;rw[<-dG,<-cq,<-F'];exact n
 have aP:(List.range' (i+3) (c.size-(i+3))).map (λi=>ts.getD i ⟨0,default,{}⟩)=ts.drop (i+3):=by
  apply aEm;intro j;rw[aDC,aDP];by_cases m:j<c.size-(i+3)
  .rw[List.getElem?_range' m,aDD,Nat.one_mul,uM az6]
  .rw[aE7 (by simpa using m),aE7 az6];rfl
 have jh:∀j d,(u.setIfInBounds i true).getD j d=if j=i then true else u.getD j d:=by
  intro j d;rw[aDz,aDz,aFl];by_cases h:i=j
  .subst h;simp[show i<u.size by omega]
  .have dM:j≠i:=λe=>h e.symm;simp[h,dM]
 refine akt (ts:=ts) (an:=an) (k:=i) (d:=d) (e:=e) (i0:=i0) (b:=b) (pos:=pos) (xo:=xo) (v1:=v1) (v2:=v2) (vi:=a.tmps.getD i0 undef) (vx:=a.eval xo) (us:=us) (c1:=c1) (E:=E) (fz:=fz) Y lU jW gE ru rm p7 he cp cy (aCP jG) (aCP sS)
  (λq aS=>aCP (n4 q aS).1) t3 ?_ (λj jB h1 n A=>uL j jB h1 n A) aN (c.size-(i+1)) (rem:=List.range' (i+3) (c.size-(i+3))) (ph:=0) (wv:=w1.setCells b pos us)
  (by simp;omega) az6 aAW List.pairwise_lt_range' (λj m=> ?_) (λj m=> ?_) ?_ ⟨dn,p.eT.good Ar,aAe⟩ ⟨f.good.trans Ar,f.pre⟩ ⟨_,aR,uz,az7,az7⟩ (λ_=>⟨rfl,kG⟩) (λh=>az6)
  (by rw[rr iU,aCT rfl]) (Ap (aCP hy)) (eval_put λq aS=>(n4 q aS).2) (λh=>az6) ?_ (by rw[aP];exact k3)
 .intro j m mo o V;have hp:=x5 o _ (qe j m o _ V (C j mo));obtain⟨m2,g,b5,eG,jw,ni,wc⟩:=RN uG (λo' pZ=>by
   obtain⟨q,aS⟩:=List.getElem?_of_mem pZ;rw[aDP]at aS;have S:c[i+3+q]?=some o':=by simpa using aS
   have um:=(aC'.1 S).1;exact(x5 o' _ (qe _ az6 o' _ S (C _ um))).2.2.2) (j-(i+3)) o (by rw[aDP,show i+3+(j-(i+3))=j by omega];simpa using V)
  have aQ:gb[j-(i+3)]?=r[j]?:=by
   have:=Z (j-i);rw[show i+(j-i)=j by omega,ao,show j-i=(j-(i+3))+1+1+1 by omega]at this;simpa using this.symm
  rw[aQ,C j mo]at b5;simp[aCz]at b5;subst b5;refine⟨m2,_,uM az6,eG,?_,hp.1,ni,wc,hp.2.2.2,λq aS=> ?_,hp.2.1⟩
  .unfold pS at jw;rw[hp.1]at jw;simpa using jw.symm
  .have J:=hp.2.2.1 q aS;simp[aCJ,not_or]at J;exact⟨aCP J.2.1,aCP J.2.2.2.2.1,aCP J.1,λM S h=>J.2.2.2.2.2 (by rw[h];exact aM M S)⟩
 .rw[jh];by_cases oA:j=i
  .subst oA;simp only[if_true,aFb,aFv,not_or,aF9];exact⟨λh=>az6,λh=>az6,λh=>az6⟩
  .simp only[oA,aCW,R j m,aF9];omega
 .rw[aF9]at m;omega
 .intro j o N rF q aS au;rw[jh]at rF⊢;by_cases m:j=i
  .subst m;rw[iR o N q aS au];simp
  .simp only[m,aCW]at rF;rw[iT j o N rF q aS au];simp
 .rw[<-dG,<-cq];simp[ag.dQ,ag.set,iO]
theorem akO(P:Program)(gl:Nat->List D):xU P gl:=akj P gl (akG P gl)
def aEu:=@Go.wpIn_mono
theorem akP{an:ey}{m:fh}{i:I}(h:jA P an m o=some i):∀c,o.op≠.defer c:=by
 intro c a;simp_all[jA]
theorem RP{l n:Nat}{next:Act->World->Prop}(j:∀c,o.op≠.defer c)(h:o.wp P a w next Q):o.wpIn (Fence.wide.inRound l) n P a w next Q:=by
 refine⟨λ_ _=>trivial,?_⟩;rw[Oper.semAt_eq _ _ _ j];unfold Oper.wp at h;generalize (execOp a.eval o).run P w=r at h;cases r with
 |ok wg w'=>
  cases wg with
  |value v=>exact h
  |skip=>exact h
  |defer d=>exact h
  |enter f args=>exact⟨λh=>by grind[Fence.wide,Fence.inRound],CallsIn.inRound l (callsIn_wide.2 h)⟩
  |row r args=>
   refine⟨λh=>by grind[Fence.wide,Fence.inRound],?_⟩;intro c k _;obtain⟨v,b5,h1,g⟩:=h c k;exact⟨v,b5,h1,stepsIn_wide.2 g⟩
  |_=>exact h.elim
 |halt e w'=>cases e<;>first|exact h|exact h.elim
theorem KQ{d n k:Nat}{ops:Array Oper}{rest:List Nat}(g:ops[k]?=some o)(f:o.guard=none)(j:∀c,o.op≠.defer c)(h:o.wp P a w (λa' w'=>wpOpsIn (Fence.wide.inRound d) n P ops Q rest a' w') Q):
  wpOpsIn (Fence.wide.inRound d) n P ops Q (k::rest) a w:=by
 simp_all[wpOpsIn,Region.wanted,RP]
theorem KR{v n:Nat}{ops:Array Oper}{an:ey}:∀(fuel:Nat) {l:List Oper} {k:Nat} {m:fh} {t:List cm} {w:World} {G:bL} {ρ:List Nat} {lam:Nat->Option Nat} {a:Act} {st:ag},l.length<=fuel->
  (∀j,ops[k+j]?=l[j]?)->hV P an nt ops m l=some t->b6 n0 gl nt w G ρ lam a st->ji w0 G0 ρ0 w G ρ->steps (bA P gl) gl t st K->
  (∀a' w',cP n0 gl nt w0 G0 ρ0 K a' w'->Q .normal a' w')->wpOpsIn (Fence.wide.inRound v) n P ops Q (List.range' k l.length) a w
 |_,[],k,m,t,w,G,ρ,lam,a,st,_,_,r,p,f,c,u=>by
  simp[hV,aCz]at r;subst r;exact u _ _ (f.after (p.after c))
 |0,o::l,k,m,t,w,G,ρ,lam,a,st,z8,_,_,_,_,_,_=>az8
 |fuel+1,o::l,k,m,t,w,G,ρ,lam,a,st,z8,aE,r,p,f,c,u=>by
  have F:ops[k]?=some o:=by have:=aE 0;simp_all
  rcases vS r with⟨g,B,h1,z,rfl⟩|⟨cO,eM,X,d,ins,e,B,rfl,ai,bk,he,z,rfl⟩
  .obtain⟨s,c2,A,H⟩:=xT h1;obtain⟨ar,i⟩:=g;rw[aCU,aDH];simp[wpOpsIn,F];have next:∀a' w',cP n0 gl nt w G ρ (λst=>steps (bA P gl) gl B st K) a' w'->wpOpsIn (Fence.wide.inRound v) n P ops Q (List.range' (k+1) l.length) a' w':=by
    rintro a' w' ⟨R,G',ρ',lam',aU,U,S,Z,cF,dR⟩;refine KR fuel (l:=l) (k:=k+1) (m:=vE P m o) az8 (λj=> ?_) z ⟨S,U,R⟩ ⟨f.good.trans Z,λi b h=>cF i b (f.pre i b h)⟩ dR u;have:=aE (j+1);grind
   have N:step (bA P gl) gl i st (λst=>steps (bA P gl) gl B st K)->o.wpIn (Fence.wide.inRound v) n P a w (λa' w'=>wpOpsIn (Fence.wide.inRound v) n P ops Q (List.range' (k+1) l.length) a' w') Q:=by
    intro c;rcases s with s|rfl
    .exact RP (akP s) (Oper.wp_mono next (JV p s A c))
    .exact c.elim
   rcases J5 c2 p.rel.aR with⟨rfl,hw⟩|⟨ad,want,rfl,⟨b,au,hw⟩|⟨au,hw⟩|⟨g1,g2⟩⟩
   .rw[hw];simp;exact N c
   .rw[hw];simp only[steps,au]at c;cases r:cond want b (!b)with
    |true=>simp_all
    |false=>rw[r]at c;simp;exact⟨λ_ _=>trivial,next _ _ (Cv p H.symm A c)⟩
   .rw[hw];simp[steps,au]at c;simp;exact⟨λ_ _=>trivial,next _ _ (Cv p H.symm A c)⟩
   .exfalso;simp[steps]at c;first
     |exact c
     |(split at c
       .rename_i b au;exact g1 b au
       .rename_i au;exact g2 au
       .exact c)
  .obtain⟨ad,aM,i,y,sz,b',rfl,E⟩:=vQ ai;have lU:ops[k+1]?=some cO:=az8;have ru:ops[k+2]?=some eM:=az8;have gu:=c;obtain⟨v1,v2,w1,b,ay,us,xo,bZ,G',n',s,ao,fz,r0,V,cq,dG,rv,Aa,jj,mu,L,uB,M⟩:=FE p E gu;obtain⟨J,hy,jG,sS⟩:=FJ E r0;obtain⟨aB,aI,bT,bt,sR,x,t3,q1,Y,cM,dB,gE,jW,pb,p7,rm,_⟩:=E.ex;have C:=aC2 bk p.sz;have sT:=aC2 he p.sz;rw[aCU,aCU,aCU,aDH,aDH,aDH];refine KQ F cM az8 (gg V ?_);rw[Y];refine KQ lU jW az8 (gg (cq _ _ ?_ ?_) ?_)
   .rw[rr C,aCT rfl]
   .rw[rr C,aCV (aCP hy)]
   rw[gE];refine KQ ru rm az8 (vH (dG _ _ ?_ ?_ rv) ?_)
   .rw[rr aA5,aCT rfl]
   .rw[eval_put (λq aS=>(J q aS).1),eval_put (λq aS=>(J q aS).2)]
   rw[p7];have dn:=J8 (v2:=v2) mu uB C sT;refine KR fuel (l:=X) (k:=k+1+1+1) (m:=m) az9 (λj=> ?_) z ⟨dn,p.eT.good L,aBH⟩ ⟨f.good.trans L,f.pre⟩ M u;have:=aE (j+3);grind
theorem akR{c n:Nat}{K:aD->ag->Prop}{b:eL}{y:Code}(f:∀{w:World} {G:bL} {ρ:List Nat} {lam:Nat->Option Nat} {a:Act} {st:ag},b6 n0 gl nt w G ρ lam a st->ji w0 G0 ρ0 w G ρ->
   run (bA P gl) gl b st K->y.wpIn (Fence.wide.inRound c) n P (kH n0 gl nt w0 G0 ρ0 K) a w) {e:Exit} {a':Act} {w':World}
  (h:kH n0 gl nt w0 G0 ρ0 (λx st=>match x with|.normal=>run (bA P gl) gl b st K|x=>K x st) e a' w'):
  Exit.then (y.wpIn (Fence.wide.inRound c) n P (kH n0 gl nt w0 G0 ρ0 K)) (kH n0 gl nt w0 G0 ρ0 K) e a' w':=by
 cases e with
 |normal=>
  obtain⟨d,G',ρ',lam',aU,j,g,k,l,m⟩:=h;exact f ⟨g,j,d⟩ ⟨k,l⟩ m
 |exit i=>exact h
 |ret=>exact h
 |_=>exact h.elim
theorem RQ{V n:Nat}{an:ey}{m:fh}:∀(c:Code) {l s:List (List Nat×List Nat)} {r:eL} {w0 w:World} {G0 G:bL} {ρ0 ρ:List Nat} {lam:Nat->Option Nat} {a:Act} {st:ag} {K:aD->ag->Prop},
  dv P an nt m c l=some (r,s)->kY r=true->b6 n0 gl nt w G ρ lam a st->ji w0 G0 ρ0 w G ρ->run (bA P gl) gl r st K->c.wpIn (Fence.wide.inRound V) n P (kH n0 gl nt w0 G0 ρ0 K) a w:=by
 intro c;induction c with
 |skip=>
  intro l s r w0 w G0 G ρ0 ρ lam a st K d o p f k;obtain⟨rfl,rfl⟩:=d;exact wpIn_skip (f.after (p.after k))
 |region id ops Q=>
  intro l s r w0 w G0 G ρ0 ρ lam a st K d o p f k;simp[dv]at d;split at d
  .rename_i is S;cases Q with
   |true=>
    simp at d;split at d
    .grind[kY]
    .split at d
     .grind[J',Ad,kY]
     .obtain⟨rfl,rfl⟩:=d;exact k.elim
   |false=>
    obtain⟨rfl,rfl⟩:=d;refine wpIn_region ?_;have:List.range ops.size=List.range' 0 ops.toList.length:=aBI;rw[this];exact KR _ (aCw _) (λj=>az7) S p f k λa' w' h=>h
  simp_all
 |seq x y A B=>
  intro l s r w0 w G0 G ρ0 ρ lam a st K d o p f k;simp[dv]at d;split at d
  .rename_i X l1 ai;split at d
   .rename_i N U v;obtain⟨rfl,rfl⟩:=d;simp[kY,aCx]at o;refine wpIn_seq (aEu (A ai o.1 p f k) λe a w h=> ?_);exact akR (λp f k=>B v o.2 p f k) h
   simp_all
  simp_all
 |cond c x y A B=>
  intro l s r w0 w G0 G ρ0 ρ lam a st K d o p f k;simp[dv]at d;split at d
  .rename_i X co l1 R ai;split at d
   .rename_i N U v;obtain⟨rfl,rfl⟩:=d;simp[kY,aCx]at o;simp[run]at k;obtain⟨L,z⟩:=dY R p.rel;split at k
    .rename_i t aK;rw[aK]at z;cases t with
     |true=>exact wpIn_cond_true z.bool (A ai o.1 p f k)
     |false=>exact wpIn_cond_false z.bool (B v o.2 p f k)
    .exact k.elim
   simp_all
  simp_all
 |block i b ih=>
  intro l s r w0 w G0 G ρ0 ρ lam a st K d o p f k;simp[dv]at d;split at d
  .rename_i Y l1 au;obtain⟨rfl,rfl⟩:=d;refine wpIn_block (aEu (ih au o p f k) λe a w h=> ?_);cases e with
   |normal=>exact h
   |ret=>exact h
   |exit j=>
    obtain⟨C,G',ρ',lam',aU,H,F,J,M,u⟩:=h;simp[Exit.inBlock];by_cases E:j=i
    .subst E;simp at u;simp;exact⟨C,G',ρ',lam',aU,H,F,J,M,u⟩
    .have:Nat.beq j i=false:=by simp_all[aDS]
     simp[this,cond]at u;simp[E,aCW];exact⟨C,G',ρ',lam',aU,H,F,J,M,u⟩
   |_=>exact h.elim
  simp_all
 |loop b ih=>
  intro l s r w0 w G0 G ρ0 ρ lam a st K d o p f k;cases l with
  |nil=>grind[dv]
  |cons q l=>
   grind[dv,kY]
 |exit i=>
  intro l s r w0 w G0 G ρ0 ρ lam a st K d o p f k;simp[dv,aCz,aC6]at d;obtain⟨rfl,rfl⟩:=d;exact wpIn_exit (f.after (p.after k))
 |ret=>
  intro l s r w0 w G0 G ρ0 ρ lam a st K d o p f k;simp[dv,aCz,aC6]at d;obtain⟨rfl,rfl⟩:=d;exact wpIn_ret (f.after (p.after k))
 |rangeFunc g ps x y _ _=>
  intro l s r w0 w G0 G ρ0 ρ lam a st K d o p f k;simp[dv]at d;split at d
  .simp at d;grind[kY]
  simp_all
 |scope _=>grind[dv]
 |label _=>grind[dv]
 |goto _=>grind[dv]
 |refuse _=>
  intro l s r w0 w G0 G ρ0 ρ lam a st K d o p f k;simp[dv,aCz,aC6]at d;obtain⟨rfl,rfl⟩:=d;exact k.elim
def aFc:=@Go.RowKit.Below.heap_alloc
theorem RR{L:Loc}{v:Value}{x:ah}(h:dq w G ρ lam L v x):c7 w G ρ v (lP x):=by
 rcases h.cases with h|⟨t,off,b,rfl,_,_⟩
 .rcases h.cases with h|⟨sz,l,rfl,hO⟩|⟨sz,m,us,rfl,hO⟩
  .cases h with
   |nil a sz=>exact .d _ _ (.kZ _ _ _)
   |undef v=>exact .undef v
   |d v x c=>exact .d v x c
   |ptr _ _ _ c=>exact .ptr _ _ _ c
   |map _ _ c=>exact .map _ _ c
   |aP _ _ _ _ _ _ _ c g aM=>exact .aP _ _ _ _ _ _ _ c g aM
   |func _ _ _ _ _ h1 f=>exact .func _ _ _ _ _ h1 f
   |agg _ _ c=>exact .agg _ _ c
   |tuple _ _ c=>exact .tuple _ _ c
   |f' _ _ c=>exact .f' _ _ c
  .cases l<;>exact .d _ _ hO.rd
  .exact .undef _
 .exact .undef _
theorem axI{L:Loc}{v:Value}{x:ah}{sz:Nat}{l:List D}(h:dp w G ρ L v x)(c:hJ x=some (sz,l)):Rd w G v (.list sz l)/\v.oneCell'=true:=by
 have m:∀{v:Value} {sz:Nat} {l:List D},Rd w G v (.list sz l)->v.oneCell'=true:=by
  intro v sz l h;cases h<;>rfl
 cases x with
 |d y=>
  cases y<;>simp[hJ,aCz,aC6,reduceCtorEq]at c;obtain⟨rfl,rfl⟩:=c;have f:=h;cases f with
  |d _ _ h=>grind
 |own j g=>
  simp[hJ,aCz,aC6]at c;obtain⟨rfl,rfl⟩:=c;cases g with
  |nil=>
   have f:=h;cases f with
   |nil a _=>exact⟨.kZ _ _ _,rfl⟩
  |cons d g=>
   have f:mh w G L v _ (d::g):=h;grind[mh.rd]
 |gH j=>
  simp[hJ,aCz,aC6]at c;obtain⟨rfl,rfl⟩:=c;have f:Rd w G v (.list j []):=by
   rcases(show mh w G L v j []\/∃k,v=.slice k 0 0 from h)with h|⟨k,rfl⟩
   .exact h.rd
   .exact .kZ _ _ _
  grind
 |_=>grind[hJ]
theorem KT(o:Obj):de w G (w.alloc o) G:=by
 refine⟨λb j v h=> ?_,λb g h=> ?_,λb n h=> ?_⟩
 .refine⟨?_,h.2⟩;have au:b<w.heap.size:=by
   have:=h.1;grind[World.cell?]
  rw[aE9 (aFc w o b au)];exact h.1
 .obtain⟨h1,d,a⟩:=h;exact⟨h1,d,(aFc w o b (aC'.1 a).1).trans a⟩
 .obtain⟨c,E,f,a,d⟩:=h;exact⟨c,E,f,(aFc w o b (aC'.1 a).1).trans a,d⟩
theorem RS(o:Obj)(a:∀b L n,G b=some (L,n)->b<w.heap.size)(L:Loc):e5 L L w G (w.alloc o) G:=
 λb _ au=>⟨aFc w o b (a _ _ _ au),au⟩
theorem RT(o:Obj)(a:∀b L n,G b=some (L,n)->b<w.heap.size):Good w G (w.alloc o) G where
 size:=az7
 iN b au _:=⟨aFc w o b au,rfl⟩
 new b n au dh:=absurd (a _ _ _ dh) (aDT.2 au)
 old _ _ _ h:=h
 keep:=KT o
 os:=rfl
 out:=rfl
structure Still(w0:World)(G0:bL)(ρ0:List Nat)(a:Act)(jx:Nat->ah)(r:Loop)(W:World)(G:bL)(ρ:List Nat):Prop where
 aR:∀t,c7 W G ρ0 (a.tmps.getD t undef) (jx t)
 mr:ji w0 G0 ρ0 W G ρ
 k8:W.heap[w0.heap.size+1]?=some (.loop r)
 x7:G (w0.heap.size+1)=none
 rH:W.heap[w0.heap.size]?=some (.deferred (some []))
 Au:G w0.heap.size=none
structure qf(gl:Nat->List D)(W:World)(G:bL)(ρ:List Nat)(s:aY):Prop where
 ob:gK W G ρ s
 eU:pU gl W G
 lt:∀b L n,G b=some (L,n)->b<W.heap.size
theorem Still.rel{d:Nat->ah}{r:Loop}{W:World}{s:aY}(h:Still w0 G0 ρ0 a d r W G ρ)(c:qf gl W G ρ s):b2 gl W G ρ (λ_=>none) a.tmps ⟨d,λ_=>none,s⟩ where
 aR t:=.cz ((h.aR t).keep (de.refl _ _) λi b=>h.mr.pre i (b+1))
 bM t cs f:=az8
 nb _ _:=rfl
 ob:=c.ob
 eU:=c.eU
 lt:=c.lt
theorem Still.put{d:Nat->ah}{r:Loop}{W:World}(h:Still w0 G0 ρ0 a d r W G ρ)(c:Loop):Still w0 G0 ρ0 a d c (W.putObj (w0.heap.size+1) (.loop c)) G ρ:=by
 have f:=sU (G:=G) (o':=.loop c) h.k8 rfl;exact⟨λt=>(h.aR t).keep f λ_ _ h=>h,⟨h.mr.good.putObj h.k8 rfl az6,h.mr.pre⟩,World.putObj_heap_same (aC'.1 h.k8).1,h.x7,(aEP az6).trans h.rH,h.Au⟩
theorem Still.RU{j:Nat->ah}{r:Loop}{W:World}{s:aY}(h:Still w0 G0 ρ0 a j r W G ρ)(d:qf gl W G ρ s)(c:Loop):qf gl (W.putObj (w0.heap.size+1) (.loop c)) G ρ s:=by
 have f:=sU (G:=G) (o':=.loop c) h.k8 rfl;have g:=λL=>Ae (w:=W) (o':=.loop c) h.x7 L;exact⟨d.ob.b0 f (λ_=>g _) (λ_ _=>g _),d.eU.b0 f,λb L n au=>by rw[World.putObj_size];exact d.lt b L n au⟩
theorem Still.run{f:Nat->ah}{r:Loop}{W dH:World}{G':bL}{ρ':List Nat}(h:Still w0 G0 ρ0 a f r W G ρ)(c:Good W G dH G')(g:∀i b:Nat,ρ0[i]?=some b->ρ'[i]?=some b):
  Still w0 G0 ρ0 a f r dH G' ρ':=by
 have h1:=c.iN _ (aC'.1 h.k8).1 (.inl h.x7);have d:=c.iN _ (aC'.1 h.rH).1 (.inl h.Au);exact⟨λt=>(h.aR t).keep c.keep λ_ _ h=>h,⟨h.mr.good.trans c,g⟩,h1.1.trans h.k8,h1.2.trans h.x7,d.1.trans h.rH,d.2.trans h.Au⟩
theorem b2.wd{tmps:Array Value}(h:b2 gl w G ρ lam tmps st):qf gl w G ρ st.s:=⟨h.ob,h.eU,h.lt⟩
end
section
variable {P:Program}{gl:Nat->List D}{n0 nt:Nat}{a:Act}{w w' w0:World}{G G' G0:bL}{ρ ρ' ρ0:List Nat}{lam lam':Nat->Option Nat}{st aU:ag}{o:Oper}{Q:Exit->Act->World->Prop}
def x8:Code->Option aD
 |.ret=>some .ret
 |.exit i=>some (.exit i)
 |_=>none
def nW(tmps:Array Value):List Nat->List Value->Array Value
 |p::ps,v::vs=>nW (tmps.setIfInBounds p v) ps vs
 |_,_=>tmps
theorem RV:∀(ps:List Nat) (vs:List Value) (tmps:Array Value),(nW tmps ps vs).size=tmps.size
 |[],_,_=>by simp[nW]
 |_::_,[],_=>by simp[nW]
 |p::ps,v::vs,tmps=>by simp[nW,RV ps vs]
theorem akS(ps:List Nat)(vs:List Value)(tmps:Array Value):
  (((⟨ps⟩:Array Nat).zip (⟨vs⟩:Array Value)).foldl (λtmps (x:Nat×Value)=>match x with|(t,a)=>tmps.setIfInBounds t a) tmps)=nW tmps ps vs:=by
 have e:((⟨ps⟩:Array Nat).zip (⟨vs⟩:Array Value))=⟨ps.zip vs⟩:=az7;simp;induction ps generalizing vs tmps with
 |nil=>simp[nW]
 |cons p ps ih=>
  cases vs with
  |nil=>simp[nW]
  |cons v vs=>simp[aFY,aF2,nW];simp_all
theorem RW{gl:Nat->List D}{W:World}{G:bL}{ρ:List Nat}:∀{ps:List Nat} {vs:List Value} {xs:List ah} {tmps:Array Value} {st0:ag},b2 gl W G ρ (λ_=>none) tmps st0->(∀p,p∈ps->p<tmps.size)->
  cu W G ρ vs xs->b2 gl W G ρ (λ_=>none) (nW tmps ps vs) {st0 with aR:=zw st0.aR ps xs}
 |[],vs,xs,tmps,st0,h,_,_=>by simp_all[nW,zw]
 |p::ps,vs,xs,tmps,st0,h,hp,a=>by
  cases a with
  |nil=>simpa [nW,zw]using h
  |cons v x vs xs h1 c=>
   exact RW (st0:=st0.set p x) (h.set (hp p az7) (.cz h1)) (λq aS=>by simpa using hp q (by simp[aS])) c
theorem akT{an:ey}{m:fh}{x y:Code}{l1 l2 eO wh:List (List Nat×List Nat)}{kv kx:eL}(bn:dv P an nt m x l1=some (kv,l2))(au:dv P an nt m y eO=some (kx,wh))(rI:kY kv=true)(x9:kY kx=true)
  {E:Nat->ah} {r:Loop} (eC:r.state=.ready) (ad:r.pending=none) {W:World} {s:aY} (h:Still w0 G0 ρ0 a E r W G ρ) (hw:qf gl W G ρ s) {ps:List Nat} {vs:List Value} {xs:List ah}
  (gM:∀p,p∈ps->p<a.tmps.size) (cj:nt<=a.tmps.size) (x':cu W G ρ vs xs) {iM:Option aD->aY->Prop} {f n:Nat}
  (V:sh (bA P gl) (run (bA P gl) gl kv) (run (bA P gl) gl kx) ps ⟨E,λ_=>none,s⟩ xs s iM):
  RoundIn Fence.wide n P (w0.heap.size+1) f (nW a.tmps ps vs) x y W λe dH=>
   ∃c G' ρ' s',e=.returned (.bool (c:Option Code).isNone)/\(∀j,c=some j->(x8 j).isSome=true)/\Still w0 G0 ρ0 a E {r with state:=if c.isNone then .ready else .done,pending:=c} dH G' ρ'/\qf gl dH G' ρ' s'/\
    de W G dH G'/\(∀b,b≠w0.heap.size+1->b<W.heap.size->G b=none->dH.heap[b]?=W.heap[b]?/\G' b=none)/\(∀i b:Nat,ρ[i]?=some b->ρ'[i]?=some b)/\iM (c.bind x8) s':=by
 have dn:=RW (h.rel hw) gM x';have p:b6 0 gl nt W G ρ (λ_=>none) {tmps:=nW a.tmps ps vs,defers:=[]} {aR:=zw E ps xs,bM:=λ_=>none,s:=s}:=⟨dn,.nil,by grind[RV]⟩;refine roundIn_of_wpIn trivial ?_;obtain⟨_,V⟩:=V;refine aEu (RQ x bn rI p p.mr V) ?_;intro e bp hN k;cases e with
 |normal=>
  obtain⟨bG,Z,lB,Kc,st1,q1,cM,dB,Y,jW⟩:=k;have u:=h.run dB (λi b C=>Y i b (h.mr.pre i b C));refine⟨_,run_beginRound u.k8 eC,?_⟩;have s2:=u.put {r with state:=.busy};have g2:de W G (hN.putObj (w0.heap.size+1) (.loop {r with state:=.busy})) Z:=dB.keep.trans (sU u.k8 rfl);have d':b6 0 gl nt (hN.putObj (w0.heap.size+1) (.loop {r with state:=.busy})) Z lB Kc bp st1:=by
   refine⟨cM.putObj u.k8 rfl u.x7,?_,bG⟩;obtain⟨hL,aj,aC,aX⟩:=q1;refine⟨hL,aj,aC,λD cD=> ?_⟩;obtain⟨g1,g2,g3⟩:=aX D cD;have cd:D≠w0.heap.size+1:=by intro e;subst e;rw[u.k8]at g2;simp_all
   grind[World.putObj_heap_other]
  refine aEu (RQ y au x9 d' d'.mr jW) ?_;have X:∀(t:Option Code) {N:World} {d:bL} {g:List Nat} {H:Nat->Option Nat} {U:Act} {l:ag},b2 gl N d g H U.tmps l->Good (hN.putObj (w0.heap.size+1) (.loop {r with state:=.busy})) Z N d->
    (∀i b:Nat,lB[i]?=some b->g[i]?=some b)->∃dH,(Instr.endRound (w0.heap.size+1) t).run P N=.ok (.bool t.isNone) dH/\
     Still w0 G0 ρ0 a E {r with state:=if t.isNone then .ready else .done,pending:=t} dH d g/\qf gl dH d g l.s/\de W G dH d/\(∀b,b≠w0.heap.size+1->b<W.heap.size->G b=none->dH.heap[b]?=W.heap[b]?/\d b=none)/\(∀i b:Nat,ρ[i]?=some b->g[i]?=some b):=by
   intro t N d g H U l S J o;have R:=s2.run J (λi b C=>o i b (Y i b (h.mr.pre i b C)));exact⟨_,run_endRound t R.k8,R.put _,R.RU S.wd _,(g2.trans J.keep).trans (sU R.k8 rfl),λb hj eh vK=>by
    grind[World.putObj_size,World.putObj_heap_other,Good.iN],λi b C=>o i b (Y i b C)⟩
  intro e U N k;cases e with
  |normal=>
   obtain⟨J,d,g,H,l,S,o,K,L,M⟩:=k;obtain⟨dH,B,F,v,w,z,A⟩:=X none o K L;exact⟨_,dH,B,none,d,g,l.s,rfl,λj Q=>az9,F,v,w,z,A,M⟩
  |ret=>
   obtain⟨J,d,g,H,l,S,o,K,L,M⟩:=k;obtain⟨dH,B,F,v,w,z,A⟩:=X (some .ret) o K L;exact⟨_,dH,B,some .ret,d,g,l.s,rfl,λj Q=>by cases Q;rfl,F,v,w,z,A,M⟩
  |exit i=>
   obtain⟨J,d,g,H,l,S,o,K,L,M⟩:=k;obtain⟨dH,B,F,v,w,z,A⟩:=X (some (.exit i)) o K L;exact⟨_,dH,B,some (.exit i),d,g,l.s,rfl,λj Q=>by cases Q;rfl,F,v,w,z,A,M⟩
  |_=>exact k.elim
 |exit i=>obtain⟨_,_,_,_,_,_,_,_,_,h⟩:=k;exact h.elim
 |ret=>obtain⟨_,_,_,_,_,_,_,_,_,h⟩:=k;exact h.elim
 |_=>exact k.elim
end
end Go.aG
