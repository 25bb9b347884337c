/- Part of many_said. -/
import Derived.Test.YtdfonihgkhbpcaaGreatDoorM3
import Derived.RangeFuncCalls
set_option linter.defProp false
set_option maxRecDepth 100000
set_option maxHeartbeats 8000000
set_option linter.unusedSimpArgs false
set_option linter.unusedVariables false
namespace Go.aG
variable {p:Prop}
def aDA:=@List.getElem?_eq_some_iff
def aFt:=@List.set_comm
def aDY:=@Bool.or_eq_true
theorem aBl(h:p:=by cases b<;>simp[kU]at h;rfl):p:=h
theorem aBJ(h:p:=by cases b<;>simp[kU]at h;rw[h]):p:=h
inductive aGs where
 |c (i off:Nat) (v:ah)
 |o (i:Nat) (ob:cc)
 |n (ob:cc)
def aGs.app:aGs->aY->aY
 |.c i off v,s=>match s.getD i .dead with
  |.box cs=>s.set i (.box (cs.set off v))
  |_=>s
 |.o i ob,s=>s.set i ob
 |.n ob,s=>s++[ob]
def apps:List aGs->aY->aY
 |[],s=>s
 |u::ws,s=>apps ws (u.app s)
structure iF where
 rd:List (Nat×Nat×List ah):=[]
 ro:List (Nat×cc):=[]
 len:Option Nat:=none
 ws:List aGs:=[]
 k:List Nat:=[]
def Ki(s:aY)(q:Nat×Nat×List ah):Prop:=∃a,s[q.1]?=some (.box a)/\q.2.1+q.2.2.length<=a.length/\(a.drop q.2.1).take q.2.2.length=q.2.2
structure jk(E:iF)(s:aY):Prop where
 rd:∀q,q∈E.rd->Ki s q
 ro:∀q,q∈E.ro->s[q.1]?=some q.2
 len:∀n,E.len=some n->s.length=n
def aGs.at(E:iF):aGs->Prop
 |.c i off _=>∃q,q∈E.rd/\q.1=i/\q.2.1<=off/\off<q.2.1+q.2.2.length
 |.o i _=>∃q,q∈E.ro/\q.1=i
 |.n _=>E.len≠none
def aGs.idx(s:aY):aGs->Prop
 |.c i _ _=>i<s.length
 |.o i _=>i<s.length
 |.n _=>True
theorem FM(u:aGs)(s:aY):s.length<=(u.app s).length:=by
 cases u with
 |c i off v=>grind[aGs.app]
 |o i ob=>simp[aGs.app]
 |n ob=>simp[aGs.app]
theorem FN{u a:aGs}{s:aY}(h:u.idx s):u.idx (a.app s):=by
 have:=FM a s;cases u with
 |c i off v=>exact aC2 h this
 |o i ob=>exact aC2 h this
 |n ob=>trivial
theorem QS{E:iF}{u:aGs}{s:aY}(h:u.at E)(b:jk E s):u.idx s:=by
 cases u with
 |c i off v=>
  obtain⟨q,a,rfl,_⟩:=h;obtain⟨e,d,_⟩:=b.rd q a;exact(aDA.1 d).1
 |o i ob=>
  obtain⟨q,a,rfl⟩:=h;exact(aDA.1 (b.ro q a)).1
 |n ob=>trivial
def aGs.ind:aGs->aGs->Prop
 |.c i off _,.c j a _=>i≠j\/off≠a
 |.c i _ _,.o j _=>i≠j
 |.o i _,.c j _ _=>i≠j
 |.o i _,.o j _=>i≠j
 |.n _,.n _=>False
 |_,_=>True
theorem getD_set_ne{s:aY}{i j:Nat}{ob:cc}(h:i≠j):(s.set i ob).getD j .dead=s.getD j .dead:=az8
theorem axu{s:aY}{i:Nat}{ob:cc}(h:i<s.length):(s.set i ob).getD i .dead=ob:=az8
theorem axv{s:aY}{i:Nat}{ob:cc}(h:i<s.length):(s++[ob]).getD i .dead=s.getD i .dead:=az9
theorem ajt{u g:aGs}{s:aY}(h:u.ind g)(m:u.idx s)(l:g.idx s):u.app (g.app s)=g.app (u.app s):=by
 have w:∀(i b:Nat) (v:ah) (j d:Nat) (e:ah),i≠j\/b≠d->i<s.length->j<s.length->(aGs.c i b v).app ((aGs.c j d e).app s)=(aGs.c j d e).app ((aGs.c i b v).app s):=by
  intro i b v j d e h z x;by_cases k:i=j
  .have y:=by omega
   simp[aGs.app];cases au:s.getD i .dead with
   |box cs=>
    simp_all[aFt,aCP]
   |_=>simp_all
  .simp only[aGs.app];cases au:s.getD i .dead<;>cases t:s.getD j .dead<;>simp only[au,t,getD_set_ne k,getD_set_ne (aCP k)];simp_all[aFt,aCP]
 have p:∀(i b:Nat) (v:ah) (j:Nat) (a:cc),i≠j->(aGs.c i b v).app ((aGs.o j a).app s)=(aGs.o j a).app ((aGs.c i b v).app s):=by
  intro i b v j a k;simp only[aGs.app,getD_set_ne (aCP k)];cases au:s.getD i .dead<;>simp;simp_all[aFt]
 have q:∀(i b:Nat) (v:ah) (a:cc),i<s.length->(aGs.c i b v).app ((aGs.n a).app s)=(aGs.n a).app ((aGs.c i b v).app s):=by
  grind[aGs.app]
 have r:∀(i:Nat) (f a:cc),i<s.length->(aGs.o i f).app ((aGs.n a).app s)=(aGs.n a).app ((aGs.o i f).app s):=by
  grind[aGs.app]
 cases u with
 |c i b v=>cases g with
  |c j d e=>exact w i b v j d e h m l
  |o j a=>exact p i b v j a h
  |n a=>exact q i b v a m
 |o i f=>cases g with
  |c j d e=>exact(p j d e i f (aCP h)).symm
  |o j a=>simp[aGs.app];rw[aFt _ _ (aCP h)]
  |n a=>exact r i f a m
 |n f=>cases g with
  |c j d e=>exact(q j d e f l).symm
  |o j a=>exact(r j a f l).symm
  |n a=>exact h.elim
theorem QT{u:aGs}:∀{ws:List aGs} {s:aY},(∀v,v∈ws->u.ind v)->u.idx s->(∀v,v∈ws->v.idx s)->apps ws (u.app s)=u.app (apps ws s)
 |[],_,_,_,_=>rfl
 |v::ws,s,h,h1,b=>by
  simp[apps];rw[<-ajt (h v az7) h1 (b v az7)];exact QT (λw a=>h w (by simp[a])) (FN h1) (λw a=>FN (b w (by simp[a])))
theorem QU:∀{us ws:List aGs} {s:aY},(∀u,u∈us->∀v,v∈ws->u.ind v)->(∀u,u∈us->u.idx s)->(∀v,v∈ws->v.idx s)->apps us (apps ws s)=apps ws (apps us s)
 |[],_,_,_,_,_=>rfl
 |u::us,ws,s,h,h1,b=>by
  simp[apps];rw[<-QT (h u az7) (h1 u az7) b];exact QU (λw a=>h w (by simp[a])) (λw a=>FN (h1 w (by simp[a]))) (λv c=>FN (b v c))
def aGs.safe(E:iF):aGs->Prop
 |.c i off _=>(∀q,q∈E.rd->q.1≠i\/off<q.2.1\/q.2.1+q.2.2.length<=off)/\∀q,q∈E.ro->q.1≠i
 |.o i ob=>(∀q,q∈E.rd->q.1≠i\/∃a,ob=.box a/\q.2.1+q.2.2.length<=a.length/\(a.drop q.2.1).take q.2.2.length=q.2.2)/\∀q,q∈E.ro->q.1≠i
 |.n _=>E.len=none
theorem QV{cs:List ah}{off n j:Nat}{v:ah}(h:j<off\/off+n<=j):((cs.set j v).drop off).take n=(cs.drop off).take n:=by
 apply aEm;grind
theorem aju{E:iF}{u:aGs}{s:aY}(h:u.safe E)(b:jk E s):jk E (u.app s):=by
 cases u with
 |c i off v=>
  simp[aGs.app];split
  .rename_i j au;have p:i<s.length:=az9;have r:s[i]?=some (.box j):=az8;refine⟨λq a=> ?_,λq a=> ?_,λn l=>by grind[jk.len]⟩
   .obtain⟨g,d,e,f⟩:=b.rd q a;by_cases k:q.1=i
    .have w:=(h.1 q a).resolve_left (λm=>m k);rw[k]at d;rw[r]at d;simp at d;refine⟨j.set off v,az8,az8,?_⟩;grind[QV]
    .exact⟨g,az9,e,f⟩
   .rw[aDb (aCP (h.2 q a))];exact b.ro q a
  omega
 |o i ob=>
  simp[aGs.app];refine⟨λq a=> ?_,λq a=> ?_,λn l=>by grind[jk.len]⟩
  .obtain⟨g,d,e,f⟩:=b.rd q a;by_cases k:q.1=i
   .obtain⟨j,rfl,t,k2⟩:=(h.1 q a).resolve_left (λm=>m k);have p:i<s.length:=az9;exact⟨j,az8,t,k2⟩
   .exact⟨g,az9,e,f⟩
  .rw[aDb (aCP (h.2 q a))];exact b.ro q a
 |n ob=>
  simp[aGs.app];refine⟨λq a=> ?_,λq a=> ?_,λn l=>by rw[show E.len=none from h]at l;simp_all⟩
  .obtain⟨g,d,e,f⟩:=b.rd q a;have p:=(aDA.1 d).1;exact⟨g,az9,e,f⟩
  .have p:=(aDA.1 (b.ro q a)).1;grind[jk.ro]
theorem QW{E:iF}:∀{ws:List aGs} {s:aY},(∀u,u∈ws->u.safe E)->jk E s->jk E (apps ws s)
 |[],_,_,aw=>aw
 |u::ws,s,h,aw=>by
  exact QW (s:=u.app s) (λv a=>h v (by simp[a])) (aju (h u az7) aw)
structure FO(X Y:iF):Prop where
 old:∀i ob,aGs.o i ob∈Y.ws->∀q,q∈X.rd->q.1=i->∃cs,(i,cc.box cs)∈Y.ro/\q.2.1+q.2.2.length<=cs.length/\(cs.drop q.2.1).take q.2.2.length=q.2.2
 len:∀n,Y.len=some n->(∀q,q∈X.rd->q.1<n)/\(∀q,q∈X.ro->q.1<n)/\X.len=none
structure FP(X Y:iF):Prop where
 QX:∀u,u∈Y.ws->u.safe X
 QY:∀u,u∈X.ws->u.safe Y
 ww:∀u,u∈X.ws->∀v,v∈Y.ws->u.ind v
 ajv:FO X Y
 QZ:FO Y X
theorem Q0{i off n:Nat}{l:List ah}(p:l.length=n):∀{ws:List aGs} {s:aY},i<s.length->(∀ob,aGs.o i ob∉ws)->(∀j v,aGs.c i j v∈ws->j<off\/off+n<=j)->Ki (apps ws s) (i,off,l)->Ki s (i,off,l)
 |[],_,_,_,_,h=>h
 |u::ws,s,hi,q,m,h=>by
  have r:=Q0 p (ws:=ws) (s:=u.app s) (aC2 hi (FM u s)) (λob t=>q ob az9) (λj v t=>m j v az9) h;obtain⟨g,a,b,f⟩:=r;cases u with
  |n ob=>
   simp[aGs.app]at a;rw[aDj hi]at a;exact⟨g,a,b,f⟩
  |o j ob=>
   simp[aGs.app]at a;by_cases d:j=i
   .simp_all
   .rw[aDb d]at a;exact⟨g,a,b,f⟩
  |c j k v=>
   simp[aGs.app]at a;split at a
   .rename_i cs au;by_cases d:j=i
    .subst d;rw[aDf hi]at a;simp at a;subst a;have w:=m k v az7;simp at b;have e:s[j]?=some (.box cs):=az8;refine⟨cs,e,b,?_⟩;grind[QV]
    .rw[aDb d]at a;exact⟨g,a,b,f⟩
   .exact⟨g,a,b,f⟩
theorem Q5{i:Nat}{ob:cc}:∀{ws:List aGs} {s:aY},i<s.length->(∀ob,aGs.o i ob∉ws)->(∀j v,aGs.c i j v∉ws)->(apps ws s)[i]?=some ob->s[i]?=some ob
 |[],_,_,_,_,h=>h
 |u::ws,s,hi,f,e,h=>by
  have a:=Q5 (ws:=ws) (s:=u.app s) (aC2 hi (FM u s)) (λob d=>f ob (by simp[d])) (λj v d=>e j v (by simp[d])) h;cases u with
  |n ob=>
   simp[aGs.app]at a;rwa [aDj hi]at a
  |o j ob=>
   simp[aGs.app]at a;by_cases b:j=i
   .subst b;exact absurd az7 (f ob)
   .rwa [aDb b]at a
  |c j k v=>
   simp[aGs.app]at a;split at a
   .by_cases b:j=i
    .subst b;exact absurd az7 (e k v)
    .rwa [aDb b]at a
   .exact a
theorem ajw:∀(ws:List aGs) (s:aY),s.length<=(apps ws s).length
 |[],_=>aCw _
 |u::ws,s=>aDn (FM u s) (ajw ws _)
theorem Kj:∀{ws:List aGs} {s:aY},(∀ob,aGs.n ob∉ws)->(apps ws s).length=s.length
 |[],_,_=>rfl
 |u::ws,s,h=>by
  have:=Kj (ws:=ws) (s:=u.app s) λob a=>h ob (by simp[a]);show(apps ws (u.app s)).length=_;rw[this];cases u with
  |n ob=>exact absurd az7 (h ob)
  |o j ob=>simp[aGs.app]
  |c j k v=>simp[aGs.app];split<;>simp
theorem ajx{X Y:iF}(h:∀u,u∈Y.ws->u.safe X)(o:FO X Y)(A:∀u,u∈Y.ws->u.at Y){s:aY}(x:jk Y s)(m:jk X (apps Y.ws s)):jk X s:=by
 have t:∀{i:Nat},(∀n,Y.len=some n->i<n)->i<(apps Y.ws s).length->i<s.length:=by
  intro i c k;cases f:Y.len with
  |none=>
   rwa [Kj (λd a=>(A _ a) f)]at k
  |some n=>grind[jk.len]
 refine⟨λq b=> ?_,λq b=> ?_,λn r=> ?_⟩
 .have c:=m.rd q b;have p:q.1<s.length:=by
   obtain⟨w,k,_⟩:=c;exact t (λn f=>(o.len n f).1 q b) (aDA.1 k).1
  by_cases g:∃d,aGs.o q.1 d∈Y.ws
  .obtain⟨d,g⟩:=g;obtain⟨w,z,k2,y⟩:=o.old q.1 d g q b rfl;exact⟨w,x.ro _ z,k2,y⟩
  .obtain⟨i,B,l⟩:=q;exact Q0 rfl p (λd a=>g ⟨d,a⟩) (λj v a=>((h _ a).1 _ b).resolve_left (λe=>e rfl)) c
 .have c:=m.ro q b;have p:=t (λn f=>(o.len n f).2.1 q b) (aDA.1 c).1;exact Q5 p (λd a=>(h _ a).2 q b rfl) (λj v a=>(h _ a).2 q b rfl) c
 .have c:=m.len n r;rw[<-c];refine(Kj λd a=> ?_).symm;have:=h _ a;rw[show X.len=none from this]at r;simp_all
mutual
theorem FQ:∀{a b:D},kU a b=true->a=b
 |.bool a,b,h=>aBJ
 |.int k a,b,h=>by cases b<;>simp[kU]at h;rw[h.1,h.2]
 |.str a,b,h=>aBJ
 |.list z a,b,h=>by
  cases b<;>simp[kU]at h;rw[h.1,CD h.2]
 |.agg a,b,h=>by
  cases b<;>simp[kU]at h;rw[CD h]
 |.dJ,b,h=>aBl
 |.h9,b,h=>aBl
 |.lL,b,h=>aBl
 |.iK,b,h=>aBl
 |.fn a,b,h=>aBJ
 |.e2 a n,b,h=>by
  cases b<;>simp[kU]at h;rw[CD h.1,h.2]
 |.iface t x,b,h=>by
  cases b<;>simp[kU]at h;rw[h.1,FQ h.2]
 |.lM a c,b,h=>by cases b<;>simp[kU]at h
 |.ix,b,h=>by cases b<;>simp[kU]at h
theorem CD:∀{a b:List D},tM a b=true->a=b
 |[],[],_=>rfl
 |[],_::_,h=>by simp[tM]at h
 |_::_,[],h=>by simp[tM]at h
 |x::a,y::b,h=>by
  simp only[tM,aCx]at h;rw[FQ h.1,CD h.2]
end
theorem Kk{a b:ah}(h:EH a b=true):a=b:=by
 cases a<;>cases b<;>simp[EH]at h
 .rw[FQ h]
 .rw[h.1,CD h.2]
 all_goals simp_all
theorem Q6:∀{a b:List ah},zu a b=true->a=b
 |[],[],_=>rfl
 |[],_::_,h=>by grind[zu]
 |_::_,[],h=>by grind[zu]
 |x::a,y::b,h=>by
  simp[zu,aCx]at h;rw[Kk h.1,Q6 h.2]
structure kI(E:iF)(f:ju):Prop where
 rd:∀q,q∈E.rd->(q.1,q.2.1,q.2.2.length)∈f.r++f.w\/(q.1,0,big)∈f.r++f.w
 ro:∀q,q∈E.ro->(q.1,0,big)∈f.r++f.w\/∃ids fr s,f.c=some (ids,fr,s)/\q.1∈ids
 len:∀n,E.len=some n->f.a=some n
 k:E.k=f.k
 FR:∀i off v,aGs.c i off v∈E.ws->∃o n,(i,o,n)∈f.w/\(n=big\/o<=off/\off<o+n)
 xX:∀i ob,aGs.o i ob∈E.ws->(i,0,big)∈f.w\/∃ids fr s,f.c=some (ids,fr,s)/\i∈ids/\s.getD i .dead=ob/\(i,fr.getD i .dead)∈E.ro
 wn:∀ob,aGs.n ob∈E.ws->f.a≠none
 ca:f.c≠none->f.a≠none
 v:f.v.length=1->f.r.length=1->f.w=[]->f.c=none->(∀q,q∈E.rd->q∈f.v)/\E.ro=[]
theorem rA{a b:List (Nat×Nat×Nat)}(h:mU a b=true){x y:Nat×Nat×Nat}(d:x∈a)(c:y∈b):x.1≠y.1\/(x.2.2≠big/\y.2.2≠big/\(x.2.1+x.2.2<=y.2.1\/y.2.1+y.2.2<=x.2.1)):=by
 have:=aCQ.1 (aCQ.1 h x d) y c;simp at this;rcases this with h|⟨⟨h1,f⟩,g⟩
 .left;intro e;simp_all
 .right;refine⟨λe=>az8,λe=>az8,?_⟩;simp_all
theorem ajy{a b:List (Nat×Nat×Nat)}(h:mU a b=true):mU b a=true:=by
 unfold mU;rw[aCQ];intro y c;rw[aCQ];intro x d;have:=aCQ.1 (aCQ.1 h x d) y c;simp at this⊢;rcases this with h|⟨⟨h1,e⟩,f⟩
 .grind[Nat.eq_of_beq_eq_true]
 grind
theorem CF{f g:ju}{ids:List Nat}{e s:aY}(h:pO f g=true)(a:f.c=some (ids,e,s)):
  g.c=none/\(∀c,c∈g.w->c.1∉ids)/\((∀c,c∈g.r->c.1∉ids)\/(g.w=[]/\g.r.length=1/\g.v.length=1/\∀c,c∈g.v->c.1∉ids\/(sameAt e c=true/\sameAt s c=true))):=by
 unfold pO at h;rw[a]at h;simp only[aCx,aCQ,aDY,aCX,Option.isNone_iff_eq_none,List.isEmpty_iff]at h;obtain⟨⟨p,d⟩,b⟩:=h;have k:∀{i:Nat},du i ids=false->i∉ids:=by
  intro i q hm;have:du i ids=true:=by
   clear a d b q;induction ids with
   |nil=>simp_all
   |cons j l ih=>
    simp[du];rcases aCJ.1 hm with rfl|hm
    all_goals simp_all
  simp_all
 refine⟨p,λc a=>k (d c a),?_⟩;rcases b with b|⟨⟨⟨b,m⟩,n⟩,o⟩
 .grind
 .exact .inr ⟨b,aCG n,aCG o,λc a=>(m c a).imp k id⟩
theorem Q7{s:aY}{q:Nat×Nat×List ah}(h:sameAt s q=true):∃cs,s.getD q.1 .dead=.box cs/\q.2.1+q.2.2.length<=cs.length/\(cs.drop q.2.1).take q.2.2.length=q.2.2:=by
 unfold sameAt at h;split at h
 .rename_i cs e;simp only[aCx]at h;exact⟨cs,e,aCM h.1,(Q6 h.2).symm⟩
 simp_all
theorem Kl{f g:ju}(h:sf f g=true){n:Nat}(a:f.a=some n):g.a=none/\(∀c,c∈g.r++g.w->c.1<n):=by
 unfold sf at h;rw[a]at h;simp at h;grind
theorem Q8{X Y:iF}{b e:ju}(g:kI X b)(r:kI Y e)(f:mU e.w (b.r++b.w)=true)(J:pO b e=true)(F:pO e b=true)(z:sf e b=true):∀u,u∈Y.ws->u.safe X:=by
 have w:∀(i:Nat),(∃o n,(i,o,n)∈e.w)->∀q,q∈X.ro->q.1≠i:=by
  rintro i ⟨o,n,d⟩ q a;rcases g.ro q a with h|⟨ids,A,s,l,t⟩
  .rcases rA f d h with h|⟨_,h,_⟩
   all_goals grind
  grind[CF]
 intro u p;cases u with
 |c i off v=>
  obtain⟨o,n,d,L⟩:=r.FR i off v p;refine⟨λq a=> ?_,w i ⟨o,n,d⟩⟩;rcases g.rd q a with h|h
  .rcases rA f d h with h|⟨l,t,y⟩
   all_goals grind
  .rcases rA f d h with h|⟨_,h,_⟩
   all_goals grind
 |o i ob=>
  rcases r.xX i ob p with d|⟨ids,A,s,l,t,y,H⟩
  .refine⟨λq a=>.inl ?_,w i ⟨0,big,d⟩⟩;rcases g.rd q a with h|h
   .rcases rA f d h with h|⟨h,_⟩
    all_goals grind
   .rcases rA f d h with h|⟨h,_⟩
    all_goals grind
  .obtain⟨B,k2,k⟩:=CF F l;have K:∀j o n,(j,o,n)∈b.r++b.w->(∀c,c∈b.r->c.1∉ids)->j∉ids:=az9;rcases k with k|⟨k,C,E,G⟩
   .refine⟨λq a=>.inl ?_,λq a=> ?_⟩
    .rintro rfl;rcases g.rd q a with h|h
     all_goals grind
    grind[kI.ro]
   .obtain⟨M,N⟩:=g.v E C k B;refine⟨λq a=> ?_,λq a=>az8⟩;grind[Q7]
 |n ob=>
  show X.len=none;have l:=r.wn ob p;cases aE:X.len with
  |none=>rfl
  |some n=>
   cases x:e.a with
   |none=>simp_all
   |some m=>
    have:=(Kl z x).1;grind[kI.len]
theorem Q9{X Y:iF}{b d:ju}(c:kI X b)(j:kI Y d)(f:mU d.w (b.r++b.w)=true)(w:pO d b=true)(o:sf d b=true):FO X Y:=by
 refine⟨λi t p q a B=> ?_,λn k=> ?_⟩
 .rcases j.xX i t p with hw|⟨ids,A,s,g,l,z,y⟩
  .rcases c.rd q a with h|h
   .rcases rA f hw h with h|⟨h,_⟩
    all_goals simp_all
   .rcases rA f hw h with h|⟨h,_⟩
    all_goals simp_all
  .obtain⟨r,k2,e⟩:=CF w g;rcases e with e|⟨e,u,v,x⟩
   .rcases c.rd q a with h|h
    all_goals grind
   .obtain⟨C,_⟩:=c.v v u e r;grind[Q7]
 .obtain⟨g,l⟩:=Kl o (j.len n k);refine⟨λq a=> ?_,λq a=> ?_,?_⟩
  .rcases c.rd q a with h|h
   all_goals grind
  .rcases c.ro q a with h|⟨_,_,_,h,_⟩
   all_goals grind[kI.ca]
  .cases ai:X.len with
   |none=>rfl
   |some m=>grind[kI.len]
theorem ajz{X Y:iF}{a b:ju}(l:kI X a)(d:kI Y b)(K:mU a.w (b.r++b.w)=true)(J:mU b.w a.r=true)(z:pO a b=true)(L:pO b a=true)(F:sf a b=true)(N:sf b a=true):FP X Y:=by
 have u:mU a.w b.w=true:=by
  unfold mU at K⊢;grind
 have M:mU b.w (a.r++a.w)=true:=by
  unfold mU at J⊢;rw[aCQ]at J⊢;intro y P;rw[aF4,aCx];exact⟨J y P,aCQ.1 (ajy u) y P⟩
 refine⟨Q8 l d M z L N,Q8 d l K L z F,?_,Q9 l d M L N,Q9 d l K z F⟩;intro ad H v q;have ao:∀{f g:ju} {r:List Nat} {t s:aY},pO f g=true->f.c=some (r,t,s)->∀{i o n:Nat},i∈r->(i,o,n)∈g.w->False:=by
  intro f g r t s h p i o n V e;exact(CF h p).2.1 _ e V
 cases ad with
 |c i off x=>
  obtain⟨o,n,e,G⟩:=l.FR i off x H;cases v with
  |c j B A=>
   obtain⟨Z,W,k,w⟩:=d.FR j B A q;rcases rA u e k with h|⟨p,E,av⟩
   .exact .inl h
   .rcases G with G|G
    .simp_all
    .rcases w with w|w
     .simp_all
     .right;grind
  |o j ob=>
   rcases d.xX j ob q with k|⟨r,t,s,p,E,_⟩
   .rcases rA u e k with h|⟨_,h,_⟩
    .exact h
    simp_all
   .rintro rfl;grind
  |n ob=>trivial
 |o i C=>
  cases v with
  |c j B A=>
   obtain⟨Z,W,k,w⟩:=d.FR j B A q;rcases l.xX i C H with e|⟨r,t,s,p,E,_⟩
   .rcases rA u e k with h|⟨h,_⟩
    .exact h
    simp_all
   .rintro rfl;grind
  |o j ob=>
   rcases l.xX i C H with e|⟨r,t,s,p,E,_⟩
   .rcases d.xX j ob q with k|⟨R,Q,s',U,S,_⟩
    .rcases rA u e k with h|⟨h,_⟩
     .exact h
     simp_all
    .rintro rfl;grind
   .rcases d.xX j ob q with k|⟨R,Q,s',U,S,_⟩
    .rintro rfl;grind
    .have:=(CF z p).1;simp_all
  |n ob=>trivial
 |n C=>
  cases v with
  |c j B A=>trivial
  |o j ob=>trivial
  |n ob=>
   cases ai:a.a with
   |none=>grind[kI.wn]
   |some m=>exact absurd (Kl F ai).1 (d.wn ob q)
theorem aAU(h:p:=by simp[I.ws]):p:=h
theorem aBm(h:p:=by grind[List.drop_eq_getElem_cons]):p:=h
section
variable {P:Program}{gl:Nat->List D}
def iV(i:I)(E:iF)(a b:ag):ag:=
 ⟨λt=>if t∈i.hw\/t∈E.k then b.aR t else a.aR t,λt=>if t∈i.gS then b.bM t else a.bM t,apps E.ws a.s⟩
structure qb(P:Program)(gl:Nat->List D)(i:I)(st aU:ag)(E:iF):Prop where
 aR:∀t,t∉i.hw->t∉E.k->aU.aR t=st.aR t
 bM:∀t,t∉i.gS->aU.bM t=st.bM t
 s:aU.s=apps E.ws st.s
 aw:jk E st.s
 k:∀t,t∈E.k->t∈i.aGH
 at_:∀u,u∈E.ws->u.at E
 r0:i.rs=false->E.rd=[]/\E.ro=[]/\E.len=none
 w0:i.ws=false->E.ws=[]/\E.len=none
 pf:∀(n7:ag) (bO:ag->Prop),(∀t,t∈i.rd->n7.aR t=st.aR t)->(∀t,t∈i.oX->n7.bM t=st.bM t)->jk E n7.s->bO (iV i E n7 aU)->step (bA P gl) gl i n7 bO
def mz(P:Program)(gl:Nat->List D)(i:I):Prop:=∀(b:ag) (K:ag->Prop),step (bA P gl) gl i b K->∃a E,K a/\qb P gl i b a E/\kI E (hg gl i b a)
theorem uH{i:I}{E:iF}{e f d:ag}(j:∀t,(if t∈i.hw\/t∈E.k then f.aR t else e.aR t)=d.aR t)(g:∀t,(if t∈i.gS then f.bM t else e.bM t)=d.bM t)(h:apps E.ws e.s=d.s):
  iV i E e f=d:=by
 obtain⟨a,b,c⟩:=d;simp[iV,ag.mk.injEq];simp_all
theorem Af:kI {} {}:=⟨az7,az7,az7,rfl,az7,az7,az7,az7,az7⟩
theorem ajC{i:I}(j:sl i=false)(f:i.rs=false)(s:i.aGH=[])(q:∀st a,hg gl i st a={}):mz P gl i:=by
 intro st K h;obtain⟨a,n,m,c,d,e⟩:=ajs j f st K h;have hw:i.wr=i.hw:=by grind[I.wr]
 have b:i.ws=false:=by
  cases b:i.ws with
  |false=>rfl
  |true=>
   have:i.rs=true:=by cases i<;>simp[I.ws,I.rs]at b⊢
   simp_all
 refine⟨a,{},n,⟨λt p _=>m t az8,c,d b,⟨az7,az7,az7⟩,az7,az7,λ_=>⟨rfl,rfl,rfl⟩,λ_=>⟨rfl,rfl⟩,?_⟩,by grind[Af]⟩;intro o l k g _ r;refine e o l ⟨k,g,az8⟩ ?_;grind[mix,iV,apps]
theorem kJ{i:I}{st a:ag}(h:∀t,t∈i.rd->a.aR t=st.aR t){x:O}(b:∀t,t∈x.slots->t∈i.rd):aG.aO gl a x=aG.aO gl st x:=by
 cases x with
 |t n=>exact h n (b n (by simp[O.slots]))
 |c v=>rfl
 |g n=>rfl
theorem qb.sZ{i:I}{d:Nat}{v:ah}{E:iF}{st:ag}(p:i.rs=true)(g:i.ws=false->E.ws=[]/\E.len=none)(n:i.hw=[d])(l:i.gS=[])(o:E.k=[])(e:jk E st.s)(f:∀u,u∈E.ws->u.at E)
  (j:∀(a:ag) (b:ag->Prop),(∀t,t∈i.rd->a.aR t=st.aR t)->jk E a.s->b ({a with s:=apps E.ws a.s}.set d v)->step (bA P gl) gl i a b):
  qb P gl i st ({st with s:=apps E.ws st.s}.set d v) E:=by
 refine⟨λt k _=> ?_,λt _=>rfl,rfl,e,az8,f,λh=>az8,g,λa b c _ aX m=>j a b c aX ?_⟩
 .simp_all[ag.set,dm]
 .have:iV i E a ({st with s:=apps E.ws st.s}.set d v)={a with s:=apps E.ws a.s}.set d v:=by
   refine uH (λt=> ?_) (λt=>by grind[ag.set]) rfl;simp_all[ag.set,dm]
  simp_all
theorem Kn{s:aY}{i:Nat}{ob:cc}(h:s.getD i .dead=ob)(a:ob≠.dead):s[i]?=some ob:=az9
theorem rB{s:aY}{i:Nat}{ob:cc}(h:s[i]?=some ob):s.getD i .dead=ob:=az8
theorem ajD{cs a:List ah}{off n:Nat}{aw:Bool}(h:(a.drop off).take n=(cs.drop off).take n)(b:(aw||Nat.beq n 1)=true)(f:off+n<=cs.length)(d:off+n<=a.length):valOf a off n aw=valOf cs off n aw:=by
 unfold valOf;cases aw with
 |true=>simp_all
 |false=>
  obtain rfl:n=1:=aCG b;have e:(cs.drop off).take 1=[cs.getD off .undef]:=aBm;have c:(a.drop off).take 1=[a.getD off .undef]:=aBm;simp_all
theorem ajE{d n:Nat}{o:Bool}{x:O}:mz P gl (.aE d x n o):=by
 intro y K h;simp only[step]at h;split at h
 .rename_i i off c;split at h
  .rename_i cs g;obtain⟨a,h⟩:=h;simp only[aCx]at a;have r:=aCM a.1;have s:((cs.drop off).take n).length=n:=az9;refine⟨_,{rd:=[(i,off,(cs.drop off).take n)]},h,.sZ (E:={rd:=[(i,off,(cs.drop off).take n)]}) rfl (λ_=>⟨rfl,rfl⟩) rfl rfl rfl ⟨?_,az7,az7⟩ az7 λv p aX j f=> ?_,?_⟩
   .intro q b;simp at b;subst b;exact⟨cs,Kn g az7,az8,az7⟩
   .obtain⟨w,k,l,m⟩:=j.rd _ (aCS.2 rfl);simp[s]at k l m;have u:=ajD m a.2 r l;simp only[step,kJ (gl:=gl) aX (x:=x) (λt e=>e),c,rB k,iE];refine⟨az8,?_⟩;rw[u];exact f
   .simp only[hg,c,g];refine⟨?_,az7,az7,rfl,az7,az7,az7,az7,λ_ _ _ _=>⟨λq b=>b,rfl⟩⟩;simp_all
  .exact h.elim
 .rename_i cs off c;obtain⟨a,h⟩:=h;refine⟨_,{},h,.sZ (E:={}) rfl (λ_=>⟨rfl,rfl⟩) rfl rfl rfl ⟨az7,az7,az7⟩ az7 λv p aX j f=> ?_,?_⟩
  .simp only[step,kJ (gl:=gl) aX (x:=x) (λt e=>e),c,iE];exact⟨a,f⟩
  grind[hg,Af]
 .exact h.elim
theorem ajF{d:Nat}{x:O}:mz P gl (.aK d x):=by
 intro p K h;simp[step]at h;split at h
 .rename_i i off e;split at h
  .rename_i cs j;obtain⟨r,h⟩:=h;have y:off<cs.length:=az8;have s:(cs.drop off).take 1=[cs.getD off .undef]:=aBm;have G:∀(b:aY) (a:List ah),b[i]?=some (.box a)->apps [aGs.c i off .undef] b=b.set i (.box (a.set off .undef)):=by
    grind[apps,aGs.app]
   have o:jk {rd:=[(i,off,[cs.getD off .undef])],ws:=[aGs.c i off .undef]} p.s:=by
    refine⟨?_,az7,az7⟩;intro q c;simp only[aCS]at c;subst c;exact⟨cs,Kn j az7,az9,az6⟩
   refine⟨_,{rd:=[(i,off,[cs.getD off .undef])],ws:=[.c i off .undef]},?_,.sZ (v:=cs.getD off .undef) (E:={rd:=[(i,off,[cs.getD off .undef])],ws:=[.c i off .undef]}) rfl aAU rfl rfl rfl o ?_ λF z aX l C=> ?_,?_⟩
   .grind
   .intro u g;simp at g;subst g;exact⟨_,aCS.2 rfl,rfl,aCw _,az7⟩
   .obtain⟨a,f,m,n⟩:=l.rd _ (aCS.2 rfl);simp at f m n;have A:off<a.length:=az6;have w:(a.drop off).take 1=[a.getD off .undef]:=aBm;have B:a.getD off .undef=cs.getD off .undef:=az8;simp[step,kJ (gl:=gl) aX (x:=x) (λt k=>k),e,rB f,iE];simp_all
   .simp[hg,e];refine⟨?_,az7,az7,rfl,?_,az7,az7,az7,az7⟩;all_goals grind
  .exact h.elim
 .exact h.elim
def pg(i:Nat):Nat->List ah->List aGs
 |_,[]=>[]
 |off,v::l=>.c i off v::pg i (off+1) l
theorem Ko{i:Nat}:∀{l:List ah} {off:Nat} {u:aGs},u∈pg i off l->∃a v,u=.c i a v/\off<=a/\a<off+l.length
 |[],_,_,h=>by grind[pg]
 |v::l,off,u,h=>by
  simp[pg,aCJ]at h;rcases h with rfl|h
  .simp
  .obtain⟨a,c,b,d,e⟩:=Ko h;exact⟨a,c,b,az6,aA9⟩
theorem Kp{i:Nat}:∀{l:List ah} {off:Nat} {s:aY} {cs:List ah},s[i]?=some (.box cs)->apps (pg i off l) s=s.set i (.box (putCells cs off l))
 |[],off,s,cs,h=>by
  grind[pg,apps,putCells,Ji]
 |v::l,off,s,cs,h=>by
  have a:=(aDA.1 h).1;simp only[pg,apps,putCells,aGs.app,rB h];rw[Kp (cs:=cs.set off v) (by rw[aDf a]),List.set_set]
theorem aAV(h:p:=by simp[hg]):p:=h
theorem FV{st:ag}{x:O}{t:Nat}(h:t∈lr st x):t∈x.slots:=by
 cases x with
 |t s=>
  grind[lr,O.slots]
 |c v=>grind[lr]
 |g n=>grind[lr]
theorem FW{st:ag}{x:O}{t:Nat}(h:t∉lr st x):(kill st x).aR t=st.aR t:=by
 cases x with
 |t s=>
  simp[lr,kill]at h⊢;split at h;all_goals simp_all[ag.set,dm]
 |c v=>rfl
 |g n=>rfl
theorem Kq{st a:ag}{x:O}{t:Nat}(h:∀t,t∈x.slots->a.aR t=st.aR t):(if t∈lr st x then(kill st x).aR t else a.aR t)=(kill a x).aR t:=by
 have b:lr a x=lr st x:=by
  cases x with
  |t s=>grind[lr,O.slots]
  |c v=>rfl
  |g n=>rfl
 grind[QQ,FV,FW]
theorem ajG{d:Nat}{x:O}:mz P gl (.e3 d x):=by
 intro b K h;refine⟨_,{k:=lr b x},h,⟨λt a m=> ?_,λt _=>by simp[ag.set,sV],by simp[ag.set,vW,apps],⟨az7,az7,az7⟩,λt a=>FV a,az7,λ_=>⟨rfl,rfl,rfl⟩,λ_=>⟨rfl,rfl⟩,λc l f j _ g=> ?_⟩,?_⟩
 .simp_all[I.hw,I.dst,ag.set,dm,FW]
 .have e:=kJ (gl:=gl) f (x:=x) (λt a=>a);have:iV (.e3 d x) {k:=lr b x} c ((kill b x).set d (aO gl b x))=(kill c x).set d (aO gl c x):=by
   refine uH (λt=> ?_) (λt=>by simp[ag.set,sV,I.gS]) (by simp[ag.set,vW,apps]);simp[I.hw,I.dst,aD5,aDI,aCS,ag.set,dm,e];by_cases i:t=d
   .grind
   .simp[i,false_or,aCW];exact Kq f
  rw[this]at g;exact g
 .exact⟨az7,az7,az7,rfl,az7,az7,az7,aAV,az7⟩
theorem ajH{t off n:Nat}{x y:O}:mz P gl (.ls x t off y n):=by
 intro b K h;simp[step]at h;split at h
 .rename_i s r cs o l;obtain⟨m,h⟩:=h;refine⟨_,{k:=lr b y},h,⟨λu d v=> ?_,λu d=> ?_,by simp[ag.eg,vW,apps],⟨az7,az7,az7⟩,λt a=>FV a,az7,λ_=>⟨rfl,rfl,rfl⟩,λ_=>⟨rfl,rfl⟩,λg q c j _ f=> ?_⟩,?_⟩
  .simp_all[ag.eg,FW]
  .simp_all[I.gS,ag.eg,dm,sV]
  .have e:=j t aAT;have p:=kJ (gl:=gl) c (x:=x) (λt a=>aCN _ a);have i:=kJ (gl:=gl) c (x:=y) (λt a=>aC7 _ a);have:iV (.ls x t off y n) {k:=lr b y} g ((kill b y).eg t (putCells cs off (cellsOf (aO gl b y))))=(kill g y).eg t (putCells cs off (cellsOf (aO gl b y))):=by
    refine uH (λu=> ?_) (λu=> ?_) (by simp[ag.eg,vW,apps])
    .simp[I.hw,I.dst,Option.toList_none,aDI,aC5,false_or,ag.eg];exact Kq λu d=>c u (aC7 _ d)
    simp_all[I.gS,ag.eg,dm,sV]
   rw[this]at f;simp[step,e,p,i,o,l];exact⟨m,f⟩
  .exact⟨az7,az7,az7,rfl,az7,az7,az7,aAV,az7⟩
 .exact h.elim
theorem ajI{n:Nat}{x y:O}:mz P gl (.hs x y n):=by
 intro a K h;simp[step]at h;split at h
 .rename_i i off j;split at h
  .rename_i cs r;obtain⟨w,h⟩:=h;have f:=w;simp only[aCx]at f;have G:=aCG f.1.1;have N:=aCM f.1.2;have Q:((cs.drop off).take n).length=n:=az9;refine⟨_,{rd:=[(i,off,(cs.drop off).take n)],ws:=pg i off (cellsOf (aO gl a y)),k:=lr a y},h,⟨λu c C=>FW C,λu c=>by simp[sV],?_,⟨?_,az7,az7⟩,λt b=>FV b,?_,by simp[I.rs],aAU,λe H d E p m=> ?_⟩,?_⟩
   .grind[Kp]
   .intro q g;simp at g;subst g;exact⟨cs,Kn r az7,az8,az7⟩
   .intro u c;obtain⟨J,v,rfl,B,F⟩:=Ko c;refine⟨_,aCS.2 rfl,rfl,B,?_⟩;simp_all
   .obtain⟨A,l,L,M⟩:=p.rd _ (aCS.2 rfl);have z:=kJ (gl:=gl) d (x:=x) (λt b=>aCN _ b);have o:=kJ (gl:=gl) d (x:=y) (λt b=>aC7 _ b);have:iV (.hs x y n) {rd:=[(i,off,(cs.drop off).take n)],ws:=pg i off (cellsOf (aO gl a y)),k:=lr a y} e {kill a y with s:=a.s.set i (.box (putCells cs off (cellsOf (aO gl a y))))}={kill e y with s:=e.s.set i (.box (putCells A off (cellsOf (aO gl a y))))}:=by
     refine uH (λu=> ?_) (λu=>by simp[I.gS,sV]) (Kp l);simp[I.hw,I.dst,Option.toList_none,aDI,aC5,false_or];exact Kq λu c=>d u (aC7 _ c)
    rw[this]at m;simp only[step,z,o,j,rB l];refine⟨?_,m⟩;simp_all
   .simp[hg,j];refine⟨?_,az7,az7,rfl,?_,?_,?_,az7,az7⟩;all_goals grind[Ko]
  .exact h.elim
 .exact h.elim
theorem axy{a b:ah}(h:a=b):hI a=hI b:=by rw[h]
theorem ajJ{d:Nat}{q u:Bool}{s:List Nat}{m k:O}{z:ah}:mz P gl (.aH d q s m k z u):=by
 intro l K h;have a:∀{f:ag},(∀t,t∈(I.aH d q s m k z u).rd->f.aR t=l.aR t)->aO gl f m=aO gl l m/\aO gl f k=aO gl l k:=λe=>⟨kJ (gl:=gl) e (λt w=>aCN _ w),kJ (gl:=gl) e (λt w=>aC7 _ w)⟩;have A:(∀i,aO gl l m≠.map i)->∀p,kI {} (hg gl (.aH d q s m k z u) l p):=by
  grind[hg,Af]
 simp[step]at h;split at h
 .exact h.elim
 .rename_i H o;obtain⟨n,h⟩:=h;split at h
  .rename_i c;refine⟨_,{},h,.sZ (E:={}) rfl (λ_=>⟨rfl,rfl⟩) rfl rfl rfl ⟨az7,az7,az7⟩ az7 λf r aX _ b=> ?_,A az8 _⟩;simp[step,(a aX).1,(a aX).2,o,c];exact⟨n,b⟩
  .rename_i aGH F c;split at h
   .rename_i g;refine⟨_,{},h,.sZ (E:={}) rfl (λ_=>⟨rfl,rfl⟩) rfl rfl rfl ⟨az7,az7,az7⟩ az7 λf r aX _ b=> ?_,A az8 _⟩;simp[step,(a aX).1,(a aX).2,o,c,g];exact⟨n,b⟩
   .rename_i j g;split at h
    .rename_i v x;refine⟨_,{},h,.sZ (E:={}) rfl (λ_=>⟨rfl,rfl⟩) rfl rfl rfl ⟨az7,az7,az7⟩ az7 λf r aX _ b=> ?_,A az8 _⟩;simp[step,(a aX).1,(a aX).2,o,c,g,x];exact⟨n,b⟩
    .exact h.elim
   .exact h.elim
  .rename_i i c;split at h
   .rename_i es G;have C:jk {ro:=[(i,.map es)]} l.s:=by
     refine⟨az7,?_,az7⟩;grind
    have B:∀p,kI {ro:=[(i,.map es)]} (hg gl (.aH d q s m k z u) l p):=by
     intro p;simp[hg,c];refine⟨az7,?_,az7,rfl,az7,az7,az7,az7,az7⟩;simp
    split at h
    .rename_i g;refine⟨_,{ro:=[(i,.map es)]},h,.sZ (E:={ro:=[(i,.map es)]}) rfl (λ_=>⟨rfl,rfl⟩) rfl rfl rfl C az7 λf r aX y b=> ?_,B _⟩;have:=rB (y.ro _ (aCS.2 rfl));simp only[step,(a aX).1,(a aX).2,o,c,this,g];exact⟨n,b⟩
    .rename_i j g;split at h
     .rename_i v x;refine⟨_,{ro:=[(i,.map es)]},h,.sZ (E:={ro:=[(i,.map es)]}) rfl (λ_=>⟨rfl,rfl⟩) rfl rfl rfl C az7 λf r aX y b=> ?_,B _⟩;have:=rB (y.ro _ (aCS.2 rfl));simp only[step,(a aX).1,(a aX).2,o,c,this,g,x];exact⟨n,b⟩
     .exact h.elim
    .exact h.elim
   .exact h.elim
  .exact h.elim
theorem qb.ajK{i:I}{E:iF}{st:ag}(o:i.rs=true)(n:i.ws=true)(l:i.dst=none/\i.hw=[])(j:i.gS=[])(m:E.k=[])(d:jk E st.s)(e:∀u,u∈E.ws->u.at E)
  (f:∀(a:ag) (b:ag->Prop),(∀t,t∈i.rd->a.aR t=st.aR t)->jk E a.s->b {a with s:=apps E.ws a.s}->step (bA P gl) gl i a b):
  qb P gl i st {st with s:=apps E.ws st.s} E:=by
 refine⟨λt g _=>rfl,λt _=>rfl,rfl,d,az8,e,λh=>az8,λh=>az8,λa b c _ aX k=>f a b c aX ?_⟩;simp_all[iV]
theorem ajL{g:Bool}{v:List Nat}{m k x:O}:mz P gl (.oU g v m k x):=by
 intro c K h;simp[step]at h;split at h
 .rename_i i b d n;split at h
  .rename_i es y;split at h
   .rename_i j l;obtain⟨f,h⟩:=h;have B:∀{s:aY},apps [aGs.o i (.map (nI es b (cX (aO gl c x)) j))] s=s.set i (.map (nI es b (cX (aO gl c x)) j)):=rfl;refine⟨_,{ro:=[(i,.map es)],ws:=[.o i (.map (nI es b (cX (aO gl c x)) j))]},h,.ajK (E:={ro:=[(i,.map es)],ws:=[.o i (.map (nI es b (cX (aO gl c x)) j))]}) rfl rfl ⟨rfl,rfl⟩ rfl rfl ⟨az7,?_,az7⟩ ?_ λA z aX o w=> ?_,?_⟩
    .grind
    .intro u e;simp at e;subst e;exact⟨_,aCS.2 rfl,rfl⟩
    .have:=rB (o.ro _ (aCS.2 rfl));have p:=kJ (gl:=gl) aX (x:=m) (λt a=>aCN _ (aCN _ a));have q:=kJ (gl:=gl) aX (x:=k) (λt a=>aCN _ (aC7 _ a));have r:=kJ (gl:=gl) aX (x:=x) (λt a=>aC7 _ a);simp only[step,p,q,r,n,d,this,l];exact⟨f,w⟩
    .simp[hg,d];refine⟨az7,?_,az7,rfl,az7,?_,az7,az7,az7⟩;all_goals simp
   .exact h.elim
  .exact h.elim
 .exact h.elim
def aER:=@List.map_congr_left
theorem qb.uI{i:I}{U:(Nat->ah)->Nat->ah}{E:iF}{st:ag}(r:i.rs=true)(l:i.ws=false->E.ws=[]/\E.len=none)(o:i.gS=[])(q:E.k=[])
  (j:∀(f:Nat->ah) t,t∉i.hw->U f t=f t) (n:∀f c t,t∈i.hw->(∀t,t∈i.rd->c t=f t)->U c t=U f t) (g:jk E st.s) (k:∀u,u∈E.ws->u.at E)
  (m:∀(a:ag) (b:ag->Prop),(∀t,t∈i.rd->a.aR t=st.aR t)->jk E a.s->b ⟨U a.aR,a.bM,apps E.ws a.s⟩->step (bA P gl) gl i a b):
  qb P gl i st ⟨U st.aR,st.bM,apps E.ws st.s⟩ E:=by
 refine⟨λt d _=>j _ t d,λt _=>rfl,rfl,g,az8,k,λh=>az8,l,λa b e _ aX p=>m a b e aX ?_⟩;have:iV i E a ⟨U st.aR,st.bM,apps E.ws st.s⟩=⟨U a.aR,a.bM,apps E.ws a.s⟩:=by
  refine uH (λt=> ?_) (λt=>az9) rfl;grind
 simp_all
theorem ajM{d sz:Nat}{xs:List O}:mz P gl (.sd d sz xs):=by
 intro a K h;obtain⟨c,h⟩:=h;refine⟨_,{len:=some a.s.length,ws:=[.n (.box (xs.map λx=>cellsOf (gT (aO gl a x))).flatten)]},h,.sZ (E:={len:=some a.s.length,ws:=[.n (.box (xs.map λx=>cellsOf (gT (aO gl a x))).flatten)]}) rfl aAU rfl rfl rfl ⟨az7,az7,λn g=>az8⟩ ?_ λl m aX i k=> ?_,?_⟩
 .grind[aGs.at]
 .have b:=i.len _ rfl;have j:(xs.map λx=>cellsOf (gT (aO gl l x)))=xs.map λx=>cellsOf (gT (aO gl a x)):=by
   refine aER λx f=> ?_;rw[kJ (gl:=gl) aX (x:=x) λt e=>aD3.2 ⟨x,f,e⟩]
  simp only[step,j,b];exact⟨c,k⟩
 .refine⟨az7,az7,λn g=>by grind[hg],rfl,az7,az7,aAV,aAV,az7⟩
theorem ajN{d t e:Nat}:mz P gl (.ai d t e):=by
 intro a K h;refine⟨_,{len:=some a.s.length,ws:=[.n (.h' t e [])]},h,.sZ (E:={len:=some a.s.length,ws:=[.n (.h' t e [])]}) rfl aAU rfl rfl rfl ⟨az7,az7,λn c=>az8⟩ ?_ λj i aX f g=> ?_,?_⟩
 .grind[aGs.at]
 .have b:=f.len _ rfl;simp[step,b];exact g
 .refine⟨az7,az7,λn c=>by grind[hg],rfl,az7,az7,aAV,aAV,az7⟩
theorem axz{f:Nat->ah}{d:Option Nat}{v:ah}{t:Nat}:(match d with|some k=>cK f k v|none=>f) t=if d=some t then v else f t:=by
 cases d with
 |none=>simp
 |some k=>
  grind[dm]
theorem FX(aR:Nat->ah)(bM:Nat->Option (List ah))(s:aY)(d:Option Nat)(v:ah):(ag.mk aR bM s).dQ d v=⟨λt=>if d=some t then v else aR t,bM,s⟩:=by
 cases d with
 |none=>simp[ag.dQ]
 |some k=>
  simp[ag.dQ,ag.set,ag.mk.injEq,aE'];grind[dm]
theorem qb.Kr{i:I}{d:Option Nat}{v:ah}{E:iF}{st:ag}(m:i.rs=true)(k:i.ws=false->E.ws=[]/\E.len=none)(o:i.hw=d.toList)(e:i.gS=[])(h:E.k=[])(g:jk E st.s)(j:∀u,u∈E.ws->u.at E)
  (l:∀(a:ag) (b:ag->Prop),(∀t,t∈i.rd->a.aR t=st.aR t)->jk E a.s->b ({a with s:=apps E.ws a.s}.dQ d v)->step (bA P gl) gl i a b):
  qb P gl i st ({st with s:=apps E.ws st.s}.dQ d v) E:=by
 rw[FX];refine .uI (U:=λf t=>if d=some t then v else f t) m k e h ?_ ?_ g j λa b c aX n=>l a b c aX ?_;all_goals grind[FX]
theorem ajO{d:Option Nat}{x:O}{z:List ah}:mz P gl (.oV d x z):=by
 have g:(I.oV d x z).hw=d.toList:=by simp[I.hw,I.dst]
 intro o K h;simp[step]at h;split at h
 .rename_i i off len cap sz a;split at h
  .rename_i cs m;obtain⟨j,h⟩:=h;refine⟨_,{ro:=[(i,.box cs)],ws:=[.o i (.box (putCells cs off (List.replicate len z).flatten))]},h,.Kr (E:={ro:=[(i,.box cs)],ws:=[.o i (.box (putCells cs off (List.replicate len z).flatten))]}) rfl aAU g rfl rfl ⟨az7,?_,az7⟩ ?_ λl k aX e c=> ?_,?_⟩
   .grind
   .intro u f;simp at f;subst f;exact⟨_,aCS.2 rfl,rfl⟩
   .have:=rB (e.ro _ (aCS.2 rfl));simp only[step,kJ (gl:=gl) aX (x:=x) (λt b=>b),a,this];exact⟨j,c⟩
   .simp[hg,a];refine⟨az7,?_,az7,rfl,az7,?_,az7,az7,az7⟩;all_goals simp
  .exact h.elim
 .rename_i v n;split at h
  .rename_i sz a;refine⟨_,{},h,.Kr (E:={}) rfl az7 g rfl rfl ⟨az7,az7,az7⟩ az7 λl k aX e c=> ?_,?_⟩
   .simp[step,kJ (gl:=gl) aX (x:=x) (λt b=>b),a];exact c
   grind[hg,Af]
  .exact h.elim
def uJ:List Nat->List cc->List aGs
 |[],l=>l.map .n
 |_,[]=>[]
 |i::ids,o::l=>.o i o::uJ ids l
theorem Rb:∀{l:List cc} {s:aY},apps (l.map .n) s=s++l
 |[],s=>by simp[apps]
 |o::l,s=>by simp[aDe,apps,aGs.app];rw[Rb];simp
theorem Ks:∀{a:List Nat} {l:List cc} {s:aY},a.length<=l.length->apps (uJ a l) s=merge s a l
 |[],l,s,_=>by
  grind[uJ,Rb,merge]
 |_::_,[],_,h=>az9
 |i::a,o::l,s,h=>by
  simp[uJ,apps,aGs.app,merge];exact Ks (by simpa using h)
theorem Kt:∀{a:List Nat} {l:List cc} {u:aGs},u∈uJ a l->(∃i ob,u=.o i ob/\∃k:Nat,a[k]?=some i/\l[k]?=some ob)\/∃ob,u=.n ob
 |[],l,u,h=>by
  grind[uJ]
 |_::_,[],u,h=>by grind[uJ]
 |i::a,o::l,u,h=>by
  simp[uJ,aCJ]at h;rcases h with rfl|h
  .exact .inl ⟨i,o,rfl,0,az7,az7⟩
  .rcases Kt h with⟨j,ob,rfl,k,h1,b⟩|h
   .exact .inl ⟨j,ob,rfl,k+1,by simpa using h1,by simpa using b⟩
   .exact .inr h
theorem ajP{a:List Nat}(h:nodupB a=true){i k k':Nat}(c:a[k]?=some i)(b:a[k']?=some i):k=k':=by
 rw[<-Cm h c,<-Cm h b]
theorem ajQ{a:List Nat}{s:aY}{l:List cc}{i k:Nat}{ob:cc}(d:a.length<=l.length)(e:nodupB a=true)(c:∀j,j∈a->j<s.length)(g:a[k]?=some i)(m:l[k]?=some ob):
  (merge s a l).getD i .dead=ob:=by
 have n:=c i (aC8 g);have f:i<(merge s a l).length:=by grind[JI]
 rcases JJ d e c (aCB f)with⟨k',b,h⟩|⟨b,_⟩|⟨b,_⟩
 all_goals grind[ajP]
theorem Ku(s:aY):∀(n:Nat) (a acc:List Nat) (i:Nat),i∈acc->i∈reach s n a acc
 |0,_,acc,i,h=>by grind[reach]
 |_+1,[],acc,i,h=>by grind[reach]
 |n+1,j::a,acc,i,h=>by
  simp[reach];cases du j acc with
  |true=>exact Ku s n _ _ i h
  |false=>exact Ku s n _ _ i (aCN _ h)
theorem Kv{s c:aY}:∀(n:Nat) (a acc:List Nat),(∀i,i∈reach s n a acc->c.getD i .dead=s.getD i .dead)->reach c n a acc=reach s n a acc
 |0,_,acc,h=>rfl
 |_+1,[],acc,h=>rfl
 |n+1,j::a,acc,h=>by
  simp[reach]at h⊢;cases b:du j acc with
  |true=>
   rw[b]at h;exact Kv n _ _ h
  |false=>
   rw[b]at h;have:=h j (Ku s n _ _ j az7);rw[this];exact Kv n _ _ h
theorem ajR{f:Nat}{vs:List ah}{s:aY}{K:ah->aY->Prop}(h:lp (bA P gl) f vs s K):
  ∃r s' ws,K r s'/\s'=apps ws s/\
   (∀q,q∈(reach s (s.length+s.length+8) (vs.flatMap (refs depth)) []).map (λi=>(i,s.getD i .dead))->s[q.1]?=some q.2)/\
   (∀i ob,aGs.o i ob∈ws->i∈reach s (s.length+s.length+8) (vs.flatMap (refs depth)) []/\s'.getD i .dead=ob)/\
   (∀i off v,aGs.c i off v∉ws)/\
   ∀(a:aY) (b:ah->aY->Prop),a.length=s.length->(∀i,i∈reach s (s.length+s.length+8) (vs.flatMap (refs depth)) []->a.getD i .dead=s.getD i .dead)->b r (apps ws a)->lp (bA P gl) f vs a b:=by
 obtain⟨g,r,s',n,c,j⟩:=h;have d:=g;simp at d;obtain⟨⟨⟨u,w⟩,x⟩,y⟩:=d;have t:∀i,i∈reach s (s.length+s.length+8) (vs.flatMap (refs depth)) []->i<s.length:=by
  simp_all[II]
 have p:=aCM c;refine⟨_,_,uJ (reach s (s.length+s.length+8) (vs.flatMap (refs depth)) []) (s'.map (cc.ren (back (reach s (s.length+s.length+8) (vs.flatMap (refs depth)) []) s.length))),j,(Ks az8).symm,?_,?_,?_,?_⟩
 .grind
 .grind[Kt,ajQ]
 .grind[Kt]
 .intro a b l o z;have e:=Kv (s.length+s.length+8) (vs.flatMap (refs depth)) [] o;have m:(reach s (s.length+s.length+8) (vs.flatMap (refs depth)) []).map (λi=>(a.getD i .dead).ren λi=>lN i (reach s (s.length+s.length+8) (vs.flatMap (refs depth)) []))=(reach s (s.length+s.length+8) (vs.flatMap (refs depth)) []).map (λi=>(s.getD i .dead).ren λi=>lN i (reach s (s.length+s.length+8) (vs.flatMap (refs depth)) [])):=az8;have k:closed a (reach s (s.length+s.length+8) (vs.flatMap (refs depth)) []) vs=closed s (reach s (s.length+s.length+8) (vs.flatMap (refs depth)) []) vs:=by
   unfold closed;grind
  unfold lp;simp only[l,e,m,k];refine⟨?_,r,s',n,c,?_⟩;all_goals simp_all[Ks]
def aDa:=@List.mem_cons_self
theorem ajS{st a:ag}{x:O}(h:aO gl a x=aO gl st x):j' gl a x=j' gl st x:=by
 unfold j';grind
theorem Rc{d:Option Nat}{f:O}{args:List O}{st:ag}{K:ag->Prop}(j:Nat)(vs:List ah)(h:lp (bA P gl) j vs st.s λr s'=>K ({st with s:=s'}.dQ d r))
  (w:∀(a:ag) (e:ag->Prop),(∀t,t∈(I.n6 d f args).rd->a.aR t=st.aR t)->step (bA P gl) gl (.n6 d f args) a e=lp (bA P gl) j vs a.s λr s'=>e ({a with s:=s'}.dQ d r))
  (l:∀b,hg gl (.n6 d f args) st b=EG st b vs):∃b E,K b/\qb P gl (.n6 d f args) st b E/\kI E (hg gl (.n6 d f args) st b):=by
 obtain⟨r,s',ws,p,rfl,A,m,B,k⟩:=ajR h;refine⟨_,{ro:=(reach st.s (st.s.length+st.s.length+8) (vs.flatMap (refs depth)) []).map (λi=>(i,st.s.getD i .dead)),len:=some st.s.length,ws:=ws},p,
  .Kr (E:={ro:=(reach st.s (st.s.length+st.s.length+8) (vs.flatMap (refs depth)) []).map (λi=>(i,st.s.getD i .dead)),len:=some st.s.length,ws:=ws}) rfl aAU (by simp[I.hw,I.dst]) rfl rfl ⟨az7,A,λn q=>az9⟩ ?_ λa e aX g z=> ?_,?_⟩
 .intro u y;cases u with
  |c i off v=>grind
  |o i ob=>exact⟨(i,st.s.getD i .dead),aCY.2 ⟨i,(m i ob y).1,rfl⟩,rfl⟩
  |n ob=>simp[aGs.at]
 .rw[w a e aX];refine k a.s _ (g.len _ rfl) (λi x=> ?_) z;exact rB (g.ro (i,st.s.getD i .dead) (aCY.2 ⟨i,x,rfl⟩))
 .rw[l];unfold EG;have C:(({st with s:=apps ws st.s}:ag).dQ d r).s=apps ws st.s:=by rw[FX]
  refine⟨az7,?_,λn q=>az6,rfl,?_,?_,az7,az7,az7⟩;all_goals grind
theorem ajU{d:Option Nat}{f:O}{args:List O}:mz P gl (.n6 d f args):=by
 intro k K h;have g:∀{b:ag},(∀t,t∈(I.n6 d f args).rd->b.aR t=k.aR t)->aO gl b f=aO gl k f/\args.map (j' gl b)=args.map (j' gl k):=by
  intro b e;refine⟨kJ (gl:=gl) e (λt i=>aCN _ i),aER λx n=>ajS (kJ (gl:=gl) e (λt i=>aC7 _ (aD3.2 ⟨x,n,i⟩)))⟩
 simp only[step]at h;split at h
 .rename_i l j;exact Rc l _ h (λb o e=>by simp[step,(g e).1,(g e).2,j]) (λm=>by grind[hg])
 .rename_i l a c j;exact Rc l _ h (λb o e=>by simp[step,(g e).1,(g e).2,j]) (λm=>by grind[hg])
 .exact h.elim
def ik(st:ag)(v:ah):List (Nat×cc):=match v with
 |.aP i _ _ _ _=>[(i,st.s.getD i .dead)]
 |_=>[]
theorem Ag{st a:ag}{v:ah}{sz:Nat}(h:∀q,q∈ik st v->a.s[q.1]?=some q.2):qX a v sz=qX st v sz:=by
 cases v<;>simp[qX];simp_all[ik]
theorem Re{st a:ag}{v:ah}(h:∀q,q∈ik st v->a.s[q.1]?=some q.2):qY a v=qY st v:=by
 cases v<;>simp[qY];simp_all[ik]
theorem CH{st:ag}{v:ah}{sz:Nat}{p:List ah×Nat}(h:qX st v sz=some p):∀q,q∈ik st v->st.s[q.1]?=some q.2:=by
 intro q a;cases v<;>simp[ik,aC5,aCS]at a;grind[qX]
theorem Rf{st:ag}{v:ah}{p:Nat×List D}(h:qY st v=some p):∀q,q∈ik st v->st.s[q.1]?=some q.2:=by
 intro q a;cases v<;>simp[ik,aC5,aCS]at a;grind[qY]
theorem CI{st:ag}{v:ah}{q:Nat×cc}(h:q∈ik st v):(q.1,0,big)∈q0 v:=by
 cases v<;>simp[ik,aC5,aCS]at h;grind[q0]
theorem Kx{i:I}{nw rw:Bool}{d s:Nat}{x:O}{sz b':Nat}(F:i.rs=true)(sY:i.ws=true)(C:i.gS=[])(hw:i.hw=[d,s])(kC:i.rd=s::x.slots)
  (A:∀(st:ag) (K:ag->Prop),step (bA P gl) gl i st K=hT (bA P gl) gl nw rw d s x sz b' st K)
  (Kw:∀st g,hg gl i st g=match st.aR s with
   |.aP i _ _ _ _=>{r:=q0 (aO gl st x),w:=[(i,0,big)],a:=some st.s.length}
   |_=>{r:=q0 (aO gl st x),a:=some st.s.length}):mz P gl i:=by
 intro st K h;rw[A]at h;have Q:∀{v:ah} (f:Nat->ah) t,t∉i.hw->cK f d v t=f t:=by
  intro v f t z;simp_all[dm]
 have M:∀{v:ah} (f J:Nat->ah) t,t∈i.hw->(∀t,t∈i.rd->J t=f t)->cK J d v t=cK f d v t:=by
  intro v f J t z hh;rw[hw]at z;simp[dm];grind
 have k1:∀{v:ah} (f:Nat->ah) t,t∉i.hw->cK (cK f s .undef) d v t=f t:=by
  intro v f t z;rw[hw]at z;simp at z;simp[dm,z.1,z.2,aCW]
 have k2:∀{v:ah} (f J:Nat->ah) t,t∈i.hw->(∀t,t∈i.rd->J t=f t)->cK (cK J s .undef) d v t=cK (cK f s .undef) d v t:=by
  intro v f J t z _;rw[hw]at z;simp[dm];grind
 have m:∀{y:ag},(∀t,t∈i.rd->y.aR t=st.aR t)->y.aR s=st.aR s/\aO gl y x=aO gl st x:=λad=>⟨ad s az9,kJ (gl:=gl) ad (λt z=>az9)⟩;have G:∀{E:iF},i.ws=false->E.ws=[]/\E.len=none:=λh=>az8;unfold hT at h;split at h
 .rename_i Y l u;have B:∀g,hg gl i st g={r:=q0 (aO gl st x),a:=some st.s.length}:=λg=>az9;have x0:∀g,kI {ro:=ik st (aO gl st x)} (hg gl i st g):=by
   intro g;rw[B];exact⟨az7,λq b=>.inl (aCN _ (CI b)),az7,rfl,az7,az7,az7,az7,az7⟩
  cases L:nw&&l.isEmpty with
  |true=>
   rw[L]at h;simp[aC0]at h;split at h
   .rename_i cs c;refine⟨_,{ro:=ik st (aO gl st x)},h,.uI (U:=λf=>cK f d (.own sz [])) (E:={ro:=ik st (aO gl st x)}) F G C rfl Q M ⟨az7,CH c,az7⟩ az7 λy H aX e o=> ?_,x0 _⟩;rw[A];unfold hT;simp[(m aX).1,(m aX).2,u,L,Ag e.ro,c,aC0];exact o
   .rename_i cs k cd c;cases rw with
    |true=>
     simp at h;split at h;rotate_left
     .exact h.elim
     rename_i gC R;obtain⟨p,h⟩:=h;refine⟨_,{ro:=ik st (aO gl st x)},h,.uI (U:=λf=>cK f d (.raw sz k gC)) (E:={ro:=ik st (aO gl st x)}) F G C rfl Q M ⟨az7,CH c,az7⟩ az7 λy H aX e o=> ?_,x0 _⟩;rw[A];unfold hT;simp[(m aX).1,(m aX).2,u,L,Ag e.ro,c,aC0,R];cases k with
     |zero=>grind
     |succ k=>exact⟨p,o⟩
    |false=>
     simp at h;obtain⟨p,h⟩:=h;refine⟨_,{ro:=ik st (aO gl st x),len:=some st.s.length,ws:=[.n (.box cs)]},h,.uI (U:=λf=>cK f d (.aP st.s.length 0 k k sz)) (E:={ro:=ik st (aO gl st x),len:=some st.s.length,ws:=[.n (.box cs)]}) F G C rfl Q M ⟨az7,CH c,λn W=>az9⟩ ?_ λy H aX e o=> ?_,?_⟩
     .grind[aGs.at]
     .rw[A];unfold hT;simp[(m aX).1,(m aX).2,u,L,Ag e.ro,c,aC0,e.len _ rfl];cases k with
      |zero=>grind
      |succ k=>exact⟨p,o⟩
     .rw[B];exact⟨az7,λq b=>.inl (aCN _ (CI b)),λn W=>az6,rfl,az7,az7,az7,az7,az7⟩
   .exact h.elim
  |false=>
   rw[L]at h;simp[aDy]at h;split at h
   .rename_i dz l2 c;obtain⟨p,h⟩:=h;refine⟨_,{ro:=ik st (aO gl st x)},h,.uI (U:=λf=>cK (cK f s .undef) d (.own sz (l++l2))) (E:={ro:=ik st (aO gl st x)}) F G C rfl k1 k2 ⟨az7,Rf c,az7⟩ az7 λy H aX e o=> ?_,x0 _⟩;rw[A];unfold hT;simp[(m aX).1,(m aX).2,u,L,Re e.ro,c,aDy];exact⟨p,o⟩
   .exact h.elim
 .rename_i Y n cs u;have B:∀g,hg gl i st g={r:=q0 (aO gl st x),a:=some st.s.length}:=λg=>az9;split at h
  .rename_i us k c;split at h
   .rename_i gC R;obtain⟨p,h⟩:=h;refine⟨_,{ro:=ik st (aO gl st x)},h,.uI (U:=λf=>cK (cK f s .undef) d (.raw sz (n+k) (cs++gC))) (E:={ro:=ik st (aO gl st x)}) F G C rfl k1 k2 ⟨az7,CH c,az7⟩ az7 λy H aX e o=> ?_,?_⟩
    .rw[A];unfold hT;simp[(m aX).1,(m aX).2,u,Ag e.ro,c,R];exact⟨p,o⟩
    .rw[B];exact⟨az7,λq b=>.inl (aCN _ (CI b)),az7,rfl,az7,az7,az7,az7,az7⟩
   .exact h.elim
  .exact h.elim
 .rename_i j off len cap Y u;have B:∀g,hg gl i st g={r:=q0 (aO gl st x),w:=[(j,0,big)],a:=some st.s.length}:=λg=>az9;split at h
  .rename_i cs us k R c;obtain⟨p,h⟩:=h;have xY:∀q,q∈(j,cc.box cs)::ik st (aO gl st x)->st.s[q.1]?=some q.2:=by
    intro q b;rcases aCJ.1 b with rfl|b
    all_goals grind[CH]
   have vI:∀q,q∈(j,cc.box cs)::ik st (aO gl st x)->(q.1,0,big)∈q0 (aO gl st x)++[(j,0,big)]:=by
    intro q b;rcases aCJ.1 b with rfl|b
    all_goals grind[CI]
   cases V:Nat.ble (len+k) cap with
   |true=>
    rw[V]at h;obtain⟨Z,h⟩:=h;refine⟨_,{ro:=(j,.box cs)::ik st (aO gl st x),ws:=[.o j (.box (putCells cs (off+len*sz) us))]},h,.uI (U:=λf=>cK f d (.aP j off (len+k) cap sz)) (E:={ro:=(j,.box cs)::ik st (aO gl st x),ws:=[.o j (.box (putCells cs (off+len*sz) us))]}) F G C rfl Q M ⟨az7,xY,az7⟩ ?_ λy H aX e o=> ?_,?_⟩
    .intro ai S;simp[aCS]at S;subst S;exact⟨_,aDa,rfl⟩
    .rw[A];unfold hT;have N:=rB (e.ro _ aDa);simp only at N;simp only[(m aX).1,(m aX).2,u,Ag (λq b=>e.ro q (aDu _ b)),c,N,V];exact⟨p,Z,o⟩
    .rw[B];refine⟨az7,λq b=>.inl (vI q b),az7,rfl,az7,?_,az7,az7,az7⟩;simp
   |false=>
    rw[V]at h;obtain⟨Z,h⟩:=h;refine⟨_,{ro:=(j,.box cs)::ik st (aO gl st x),len:=some st.s.length,ws:=[.o j .dead,.n (.box (cs.take (len*sz)++us))]},h,.uI (U:=λf=>cK f d (.aP st.s.length 0 (len+k) (len+k) sz)) (E:={ro:=(j,.box cs)::ik st (aO gl st x),len:=some st.s.length,ws:=[.o j .dead,.n (.box (cs.take (len*sz)++us))]}) F G C rfl Q M ⟨az7,xY,λn W=>az9⟩ ?_ λy H aX e o=> ?_,?_⟩
    .intro ai S;simp only[aCJ,aC5,aDW]at S;grind[List.mem_cons_self,aGs.at]
    .rw[A];unfold hT;have N:=rB (e.ro _ aDa);simp only at N;simp only[(m aX).1,(m aX).2,u,Ag (λq b=>e.ro q (aDu _ b)),c,N,V,e.len _ rfl];exact⟨p,Z,o⟩
    .rw[B];refine⟨az7,λq b=>.inl (vI q b),λn W=>az6,rfl,az7,?_,az7,az7,az7⟩;simp
  .exact h.elim
 .rename_i Y u;have B:∀g,hg gl i st g={r:=q0 (aO gl st x),a:=some st.s.length}:=λg=>az9;split at h
  .rename_i dz l2 c;obtain⟨p,h⟩:=h;refine⟨_,{ro:=ik st (aO gl st x)},h,.uI (U:=λf=>cK (cK f s .undef) d (iL sz l2)) (E:={ro:=ik st (aO gl st x)}) F G C rfl k1 k2 ⟨az7,Rf c,az7⟩ az7 λy H aX e o=> ?_,?_⟩
   .rw[A];unfold hT;simp only[(m aX).1,(m aX).2,u,Re e.ro,c];exact⟨p,o⟩
   .rw[B];exact⟨az7,λq b=>.inl (aCN _ (CI b)),az7,rfl,az7,az7,az7,az7,az7⟩
  .exact h.elim
 .exact h.elim
theorem ajV{d s:Nat}{x:O}{sz a:Nat}:mz P gl (.ap d s x sz a):=Kx rfl rfl rfl rfl rfl (λ_ _=>rfl) (λ_ _=>rfl)
theorem ajW{d s:Nat}{x:O}{sz a:Nat}:mz P gl (.nF d s x sz a):=Kx rfl rfl rfl rfl rfl (λ_ _=>rfl) (λ_ _=>rfl)
theorem ajX{d s:Nat}{x:O}{sz a:Nat}:mz P gl (.nG d s x sz a):=Kx rfl rfl rfl rfl rfl (λ_ _=>rfl) (λ_ _=>rfl)
theorem Rg{i:I}(a:sl i=false)(b:ic i=false):mz P gl i:=by
 cases i;case e3=>exact ajG
 case aM=>grind[sl]
 case nH=>grind[sl]
 case pL=>grind[sl]
 case ls=>exact ajH
 case aE=>exact ajE
 case aK=>exact ajF
 case hs=>exact ajI
 case aH=>exact ajJ
 case oU=>exact ajL
 case n6=>exact ajU
 case ap=>exact ajV
 case nF=>exact ajW
 case nG=>exact ajX
 case sd=>exact ajM
 case ai=>exact ajN
 case oV=>exact ajO
 all_goals first
  |exact ajC a rfl rfl (λ_ _=>rfl)
  |grind[ic]
theorem aBn(h:p:=by grind[I.hw,I.dst]):p:=h
theorem Rh{i:I}{t:Nat}(h:t∈i.hw):i.dst=some t\/t∈i.rd:=by
 rcases aC9.1 h with h|h
 all_goals grind[I.rd]
theorem FZ{i:I}{t:Nat}(h:t∈i.aGH):t∈i.rd:=by
 cases i<;>simp[I.aGH,aC5]at h
 .exact h
 .exact aC7 _ h
 .exact aC7 _ h
 .exact h
theorem ajY{i:I}{t:Nat}(h:t∈i.gS):t∈i.oX:=by
 cases i<;>simp[I.gS,I.oX]at h⊢ <;>exact h
theorem ajZ{i:I}(h:i.ws=true):i.rs=true:=by
 cases i<;>simp[I.ws,I.rs]at h⊢
theorem Ri{i:I}{d:Nat}(h:i.dst=some d):d∈i.hw:=by
 simp_all[I.hw]
theorem vZ{g:cm}{t:Nat}(h:t∈g.i.rd):t∈g.rd:=by grind[cm.rd]
structure qc(P:Program)(gl:Nat->List D)(id:Nat)(g:cm)(st aU:ag)(E:iF):Prop where
 aR:∀t,t∉g.i.hw->t∉E.k->aU.aR t=st.aR t
 bM:∀t,t∉g.i.gS->aU.bM t=st.bM t
 s:aU.s=apps E.ws st.s
 aw:jk E st.s
 k:∀t,t∈E.k->t∈g.i.aGH
 at_:∀u,u∈E.ws->u.at E
 r0:g.i.rs=false->E.rd=[]/\E.ro=[]/\E.len=none
 w0:g.i.ws=false->E.ws=[]/\E.len=none
 pf:∀(n7:ag) (bO:ag->Prop),(∀t,t∈g.rd->n7.aR t=st.aR t)->(∀t,t∈g.i.oX->n7.bM t=st.bM t)->jk E n7.s->bO (iV g.i E n7 aU)->kV (bA P gl) gl id g n7 bO
theorem Ky(st:ag)(d:Option Nat)(v:ah)(t:Nat):(st.dQ d v).aR t=if d=some t then v else st.aR t:=by
 obtain⟨a,b,c⟩:=st;rw[FX]
theorem Rj(st:ag)(d:Option Nat)(v:ah):(st.dQ d v).bM=st.bM:=by cases d<;>rfl
theorem Rk(st:ag)(d:Option Nat)(v:ah):(st.dQ d v).s=st.s:=by cases d<;>rfl
theorem aj0{c:Nat}{g:cm}{st a:ag}{E:iF}(h:qc P gl c g st a E):iV g.i E st a=a:=by
 refine uH (λt=> ?_) (λt=> ?_) h.s.symm
 .split
  .rfl
  .rename_i b;simp at b;exact(h.aR t b.1 b.2).symm
 grind[qc.bM]
theorem qc.mono{b:Nat}{g:cm}{st a:ag}{E:iF}(h:qc P gl b g st a E){K:ag->Prop}(c:K a):kV (bA P gl) gl b g st K:=
 h.pf st K (λ_ _=>rfl) (λ_ _=>rfl) h.aw (by grind[aj0])
theorem Rl{f:Nat}{g:cm}{st:ag}(e:ic g.i=false)(c:∀(a:ag) (b:ag->Prop),(∀t,t∈g.rd->a.aR t=st.aR t)->b (a.dQ g.i.dst (.tuple []))->step1 (bA P gl) gl g a b):
  qc P gl f g st (st.dQ g.i.dst (.tuple [])) {}:=by
 refine⟨λt j _=> ?_,λt _=>by rw[Rj],by rw[Rk];rfl,⟨az7,az7,az7⟩,az7,az7,λ_=>⟨rfl,rfl,rfl⟩,λ_=>⟨rfl,rfl⟩,λa b d i _ k=> ?_⟩
 .rw[Ky,aCV];grind[Ri]
 .unfold kV;rw[e];refine c a b d ?_;have:iV g.i {} a (st.dQ g.i.dst (.tuple []))=a.dQ g.i.dst (.tuple []):=by
   refine uH (λt=> ?_) (λt=> ?_) (by rw[Rk];rfl)
   .rw[Ky,Ky];by_cases h:g.i.dst=some t
    .grind[Ri]
    .grind[Rh,vZ]
   simp_all[Rj,ajY]
  simp_all
theorem qb.Rm{d:Nat}{g:cm}{st c:ag}{E:iF}(j:ic g.i=false)(h:qb P gl g.i st c E)
  (e:∀(a:ag) (b:ag->Prop),(∀t,t∈g.rd->a.aR t=st.aR t)->step (bA P gl) gl g.i a b->step1 (bA P gl) gl g a b):qc P gl d g st c E:=by
 refine⟨h.aR,h.bM,h.s,h.aw,h.k,h.at_,h.r0,h.w0,λa b i f aX k=> ?_⟩;grind[kV,vZ,pf]
theorem Rn{i:I}{st:ag}{o:cc}{d:Nat}{v:Nat->ah}(h:ku gl i st=some (o,d,v)):i.hw=[d]/\i.gS=[]/\i.rs=true/\i.ws=true/\i.dst=some d/\
  ∀a:ag,(∀t,t∈i.rd->a.aR t=st.aR t)->ku gl i a=some (o,d,v):=by
 cases i<;>simp only[ku,reduceCtorEq]at h;case bn b z=>
  obtain⟨k,f,g⟩:=h;refine⟨aBn,rfl,rfl,rfl,by grind[I.dst],λa _=>by grind[ku]⟩
 case mm b=>
  obtain⟨k,f,g⟩:=h;refine⟨aBn,rfl,rfl,rfl,by grind[I.dst],λa _=>by grind[ku]⟩
 case au b x n=>
  have j:b=d:=az9;refine⟨aBn,rfl,rfl,rfl,by grind[I.dst],λa e=> ?_⟩;simp[ku,kJ (gl:=gl) e (x:=x) (λt c=>c)];exact h
 case mk b sz z n l=>
  have j:b=d:=az9;refine⟨aBn,rfl,rfl,rfl,by grind[I.dst],λa e=> ?_⟩;simp[ku,kJ (gl:=gl) e (x:=n) (λt c=>c)];exact h
theorem aj1{a:Nat}{g:cm}(n:sl g.i=false){st:ag}{K:ag->Prop}(h:kV (bA P gl) gl a g st K):
  ∃c E,K c/\qc P gl a g st c E/\kI E (vA gl a g st c):=by
 cases bn:ic g.i with
 |true=>
  unfold kV at h;rw[bn]at h;split at h
  .rename_i o d v j x;obtain⟨J,h⟩:=h;have L:a<st.s.length:=az8;obtain⟨M,C,F,G,H,r⟩:=Rn x;have R:g.rd=g.i.rd:=by grind[cm.rd]
   refine⟨_,{ro:=[(a,st.s.getD a .dead)],ws:=[.o a o]},h,⟨λt m _=> ?_,λt _=>rfl,rfl,⟨az7,?_,az7⟩,az7,?_,λw=>az8,λw=>az8,λf i y Q z S=> ?_⟩,?_⟩
   .simp_all[ag.set,dm]
   .simp_all
   .intro u q;simp at q;subst q;exact⟨_,aCS.2 rfl,rfl⟩
   .have N:=(aDA.1 (z.ro _ (aCS.2 rfl))).1;unfold kV;rw[bn];simp[aC0,j,r f (λt m=>y t (vZ m))];refine⟨az8,?_⟩;have:iV g.i {ro:=[(a,st.s.getD a .dead)],ws:=[.o a o]} f ({st with s:=st.s.set a o}.set d (v a))={f with s:=f.s.set a o}.set d (v a):=by
     refine uH (λt=> ?_) (λt=>by grind[ag.set]) rfl;simp_all[ag.set,dm]
    simp_all
   .unfold vA;rw[bn];refine⟨az7,?_,az7,rfl,az7,?_,az7,az7,az7⟩;all_goals simp
  .exact h.elim
 |false=>
  have B:∀c,vA gl a g st c=zv gl g st c:=λc=>by grind[vA]
  unfold kV at h;rw[bn]at h;simp at h;unfold step1 at h;split at h
  .rename_i j;obtain⟨c,E,l,k2,A⟩:=Rg (P:=P) (gl:=gl) n bn st K h;refine⟨c,E,l,k2.Rm bn λf i _ k=> ?_,?_⟩;all_goals grind[step1,zv]
  .rename_i s want j;have U:∀{f:ag},(∀t,t∈g.rd->f.aR t=st.aR t)->f.aR s=st.aR s:=λe=>e s (by grind[cm.rd]);split at h
   .rename_i b au;cases p:cond want b (!b)with
    |true=>
     rw[p]at h;simp at h;obtain⟨c,E,l,k2,A⟩:=Rg (P:=P) (gl:=gl) n bn st K h;refine⟨c,E,l,k2.Rm bn λf i e k=> ?_,?_⟩;all_goals grind[step1,zv]
    |false=>
     rw[p]at h;simp at h;refine⟨_,{},h,Rl bn λf i e k=> ?_,?_⟩;all_goals grind[step1,zv,Af]
   .rename_i au;refine⟨_,{},h,Rl bn λf i e k=> ?_,?_⟩;all_goals grind[step1,zv,Af]
   .exact h.elim
structure T where
 id:Nat
 g:cm
 E:iF
def rC(P:Program)(gl:Nat->List D):List T->ag->(ag->Prop)->Prop
 |[],st,K=>K st
 |t::l,st,K=>∃a,qc P gl t.id t.g st a t.E/\rC P gl l a K
structure v8(x y:T):Prop where
 h:zt x.g y.g=true
 k1:∀t,t∈x.E.k->t∉y.g.rd/\t∉y.g.i.hw
 k2:∀t,t∈y.E.k->t∉x.g.rd/\t∉x.g.i.hw
 e:FP x.E y.E
theorem s0{a b:List Nat}(h:qW a b=true):∀t,t∈a->t∉b:=by
 intro t c d;have:=aCQ.1 h t c;rw[p4.2 d]at this;simp_all
theorem aj2{x y:T}{l:List T}{st:ag}{K:ag->Prop}(hi:v8 x y)(h:rC P gl (x::y::l) st K):rC P gl (y::x::l) st K:=by
 obtain⟨C,a,s2,b,A⟩:=h;have j:=hi.h;unfold zt at j;simp at j;obtain⟨⟨⟨m,z⟩,g⟩,n⟩:=j;have m:=s0 m;have z:=s0 z;have g:=s0 g;have n:=s0 n;have E:=λt aK=>a.aR t (λc=>m t c (aCN _ aK)) (λd=>(hi.k1 t d).1 aK);have F:=λt aK=>a.bM t λc=>g t c (aCN _ aK);have q:=by
  refine ajx hi.e.QY hi.e.QZ a.at_ a.aw ?_;rw[<-a.s];exact b.aw
 have G:∀t,t∈x.g.i.hw\/t∈x.E.k->s2.aR t=C.aR t:=by
  intro t aK;refine b.aR t (λc=> ?_) (λd=> ?_)
  .rcases aK with aK|aK
   .simp_all
   .exact(hi.k1 t aK).2 c
  .rcases aK with aK|aK
   .exact(hi.k2 t d).2 aK
   .exact(hi.k1 t aK).1 (vZ (FZ (b.k t d)))
 have H:=λt aK=>b.bM t λc=>g t aK (aC7 _ c);have B:=by
  refine(QU (λu o v p=>hi.e.ww u o v p) (λu o=>QS (a.at_ u o) a.aw) (λv p=>QS (b.at_ v p) q)).symm
 refine⟨iV y.g.i y.E st s2,⟨λt i s=> ?_,λt i=> ?_,rfl,q,b.k,b.at_,b.r0,b.w0,λf k w r aX d=> ?_⟩,s2,⟨λt i s=> ?_,λt i=> ?_,?_,QW hi.e.QX a.aw,a.k,a.at_,a.r0,a.w0,λf k w r aX d=> ?_⟩,A⟩
 .simp_all[iV]
 .simp_all[iV]
 .refine b.pf f k (λt aK=>az8) (λt aK=>az8) aX ?_;have:iV y.g.i y.E f (iV y.g.i y.E st s2)=iV y.g.i y.E f s2:=by
   refine uH (λt=> ?_) (λt=> ?_) rfl
   .simp[iV];simp_all
   .simp[iV];simp_all
  simp_all
 .simp only[iV];split
  .rfl
  .rename_i e;simp at e;rw[b.aR t e.1 e.2,a.aR t i s]
 .grind[iV,qc.bM]
 .rw[b.s,a.s];exact B
 .refine a.pf f k (λt aK=> ?_) (λt aK=> ?_) aX ?_
  .rw[w t aK];have e:¬(t∈y.g.i.hw\/t∈y.E.k):=by
    rintro(c|d)
    .simp_all
    .exact(hi.k2 t d).1 aK
   simp[iV,e,aCW]
  .rw[r t aK];have e:t∉y.g.i.gS:=λc=>n t c aK;simp[iV,e,aCW]
  grind[iV]
theorem Kz{g:T}:∀{l1 l2:List T} {st:ag} {K:ag->Prop},(∀x,x∈l1->v8 x g)->rC P gl (l1++g::l2) st K->rC P gl (g::(l1++l2)) st K
 |[],l2,st,K,_,h=>h
 |x::l1,l2,st,K,aE,h=>by
  obtain⟨d,b,h⟩:=h;have c:=Kz (l1:=l1) (λy a=>aE y (by simp[a])) h;exact aj2 (aE x az7) ⟨d,b,c⟩
def nV:List cm->Nat->List Nat
 |[],_=>[]
 |g::l,id=>id::nV l (cond (ic g.i) (id+1) id)
def Rp(x y:T):Prop:=∃a b,kI x.E a/\kI y.E b/\BM x.g a y.g b=true
theorem Rq:∀{l:List cm} {a:List (List Nat)} {acc:List (cm×ju)} {b:Nat} {st:ag} {K:ag->Prop} {ts:List T},(∀g,g∈l->sl g.i=false)->
  (∀(i:Nat) x d,acc[i]?=some (x,d)->∃t,ts[i]?=some t/\t.g=x/\kI t.E d)->acc.length=ts.length->q2 (bA P gl) gl l a acc b st K->
  ∃c:List T,rC P gl c st K/\c.map (·.g)=l/\c.map (·.id)=nV l b/\∀(j:Nat) f,c[j]?=some f->∀i,i∈a.getD j []->∃p,(ts++c)[i]?=some p/\Rp p f
 |[],a,acc,b,st,K,ts,_,_,_,h=>⟨[],h,rfl,rfl,az7⟩
 |g::l,a,acc,b,st,K,ts,n,bn,hlen,h=>by
  obtain⟨q,E,⟨r,v⟩,s,k⟩:=aj1 (n g az7) h;obtain⟨c,u,k2,C,F⟩:=Rq (ts:=ts++[⟨b,g,E⟩]) (λg A=>n g az9) (by
   intro i x d e;rcases aDo i acc.length with aE|aE
   .grind
   .rw[aDp aE]at e;have w:i-acc.length=0:=az9;rw[w]at e;obtain⟨rfl,rfl⟩:=e;exact⟨⟨b,g,E⟩,az9,rfl,k⟩) az8 v
  refine⟨⟨b,g,E⟩::c,⟨q,s,u⟩,az9,by grind[nV],?_⟩;intro j f m i e;cases j with
  |zero=>
   simp at m;subst m;have o:i∈a.headD []:=by cases a<;>first|grind|simp at e
   have:=aCQ.1 r i o;split at this
   .rename_i x d ai;obtain⟨t,y,G,z⟩:=bn i x d ai;have B:=(aDA.1 y).1;refine⟨t,az9,d,_,z,k,?_⟩;simp_all
   simp_all
  |succ j=>
   have o:i∈a.tail.getD j []:=az8;grind
end
section
variable {P:Program}{gl:Nat->List D}{n0 nt:Nat}{a:Act}{w w' w0:World}{G G' G0:bL}{ρ ρ' ρ0:List Nat}{lam lam':Nat->Option Nat}{st aU:ag}{K:ag->Prop}{o:Oper}{Q:Exit->Act->World->Prop}
theorem b2.aj4{d c:Nat}{ob:Obj}{v:Value}{x:ah}{vo:cc}(h:b2 gl w G ρ lam a.tmps st)(B:ρ[c]?=some 0)(z:gD w ob w')(r:d<a.tmps.size)
  (A:ky w' (fQ w G (.obj c) 0) (ρ.set c (w.heap.size+1)) c w.heap.size vo) (q:c7 w' (fQ w G (.obj c) 0) (ρ.set c (w.heap.size+1)) v x):
  b2 gl w' (fQ w G (.obj c) 0) (ρ.set c (w.heap.size+1)) lam (a.tmps.setIfInBounds d v) ({st with s:=st.s.set c vo}.set d x):=by
 have f:∀i b:Nat,ρ[i]?=some (b+1)->(ρ.set c (w.heap.size+1))[i]?=some (b+1):=az9;have C:c<st.s.length:=by rw[<-h.ob.1];grind
 have e:=z.rel (L0:=.obj c) (n0:=0) h.lt h;refine b2.set (st:={st with s:=st.s.set c vo}) ⟨λt=> ?_,?_,e.nb,⟨aA7,?_⟩,e.eU,e.lt⟩ r (.cz q)
 .exact(e.aR t).b0 (de.refl _ _) f (λ_ _ h=>h) (λb n h=>⟨rfl,h⟩)
 .intro t u m;obtain⟨b,y,p⟩:=e.bM t u m;exact⟨b,y,dC.b0 (de.refl _ _) f (λb n h=>⟨rfl,h⟩) (λj b n h=>⟨rfl,h⟩) p⟩
 .intro i b o g k;by_cases l:c=i
  .grind
  .rw[aDb l]at g;rw[aDb l]at k;exact(e.ob.2 i b o g k).b0 (de.refl _ _) f (λb n h=>⟨rfl,h⟩) (λj b n h=>⟨rfl,h⟩)
def Aj(P:Program)(o:Oper)(a:Act)(w:World)(G:bL)(ρ:List Nat)(ob:cc)(v:Nat->ah):Prop:=
 ∃(e:Value) (f:Obj) (d:World),(execOp a.eval o).run P w=.ok (.value e) d/\gD w f d/\
  ∀(c:Nat) (ρ':List Nat),(∀i b:Nat,ρ[i]?=some (b+1)->ρ'[i]?=some (b+1))->ρ'[c]?=some (w.heap.size+1)->
   ky d (fQ w G (.obj c) 0) ρ' c w.heap.size ob/\c7 d (fQ w G (.obj c) 0) ρ' e (v c)
theorem aj5{e:Nat}{z:List ah}(m:o.op=.alloc e)(d:zeros P e=some z):Aj P o a w G ρ (.box z) (λi=>.ptr i 0):=by
 obtain⟨i,v,p,k,l,j,f⟩:=om d;have c:(execOp a.eval o).run P w=.ok (.value (.pointer (some ⟨w.heap.size,0,none⟩))) {w with heap:=w.heap.push (.cells v.cells e)}:=aBC;have b:gD w (.cells ⟨v.cells.toList⟩ e) {w with heap:=w.heap.push (.cells v.cells e)}:=⟨rfl,rfl,rfl⟩;exact⟨_,_,_,c,b,λh ρ' n g=>⟨xB (LC:=.dk h) b f,.ptr _ _ _ g⟩⟩
theorem aj6{e n q:Nat}{x:Operand}{b:O}(p:b6 n0 gl nt w G ρ lam a st)(s:o.op=.box e x)(g:bW P q x=some b)
  (c:(Nat.beq (cellsOf (gT (aO gl st b))).length n&&(cellsOf (gT (aO gl st b))).all (eo depth))=true):Aj P o a w G ρ (.box (cellsOf (gT (aO gl st b)))) (λi=>.ptr i 0):=by
 simp only[aCx]at c;obtain⟨r,m⟩:=dY g p.rel;have j:=E4 m c.2;have f:(execOp a.eval o).run P w=.ok (.value (.pointer (some ⟨w.heap.size,0,none⟩))) {w with heap:=w.heap.push (.cells (a.eval x).cells e)}:=aBD;have d:gD w (.cells ⟨(a.eval x).cells.toList⟩ e) {w with heap:=w.heap.push (.cells (a.eval x).cells e)}:=⟨rfl,rfl,rfl⟩;refine⟨_,_,_,f,d,λl ρ' h k=>⟨xB (LC:=.dk l) d ?_,.ptr _ _ _ k⟩⟩;exact(j.keep (de.refl _ _) h).cells c.2
theorem aj7{t:Nat}(e:o.op=.makeMap t none):Aj P o a w G ρ (.map []) (λi=>.map i):=by
 have c:(execOp a.eval o).run P w=.ok (.value (.map (some w.heap.size))) {w with heap:=w.heap.push (.map #[] 0)}:=by
  simp_all[execOp,Instr.makeMap]
 have b:gD w (.map #[] 0) {w with heap:=w.heap.push (.map #[] 0)}:=⟨rfl,rfl,rfl⟩;exact⟨_,_,_,c,b,λg ρ' f d=>⟨⟨#[],0,b.new,aAv,rfl,az7⟩,.map _ _ d⟩⟩
theorem aj8{t e sz bt:Nat}{z:List ah}{l c:Operand}{g:O}{k:IntKind}{n:Int}(p:b6 n0 gl nt w G ρ lam a st)(E:o.op=.makeSlice t l c)(K:a.eval c=a.eval l)(j:bW P 0 l=some g)
  (x:P.underlying t=some (.slice e)) (r:df P e=some sz) (u:0<sz) (m:zeros P e=some z) (B:bytesOf P e=some bt) (y:0<bt) (q:aO gl st g=.d (.int k n))
  (b:(decide (0<=n)&&decide (n<=((1099511627776/bt:Nat):Int)))=true):Aj P o a w G ρ (.box (List.replicate n.toNat z).flatten) (λi=>.aP i 0 n.toNat n.toNat sz):=by
 obtain⟨H,h⟩:=dY j p.rel;rw[q]at h;have J:=h.int;simp at b;obtain⟨f,L,C,M⟩:=Qq (P:=P) (w:=w) (k:=k) x r u m B y b.1 b.2;have s:(execOp a.eval o).run P w=.ok (.value (.slice (some ⟨w.heap.size,0,none⟩) n.toNat n.toNat)) {w with heap:=w.heap.push (.cells ⟨f⟩ e)}:=aAO;have d:gD w (.cells ⟨f⟩ e) {w with heap:=w.heap.push (.cells ⟨f⟩ e)}:=⟨rfl,rfl,rfl⟩;refine⟨_,_,_,s,d,λA ρ' F v=>⟨xB (LC:=.dk A) d C,?_⟩⟩;refine .aP _ _ _ _ _ _ _ v (aCw _) ⟨_,e,(0,0),d.new,?_⟩;simp_all
def aj9(n0:Nat)(gl:Nat->List D)(nt:Nat)(a:Nat)(w:World)(G:bL)(ρ:List Nat)(K:ag->Prop)(a':Act)(w':World):Prop:=
 nt<=a'.tmps.size/\∃G' ρ' lam' aU,Marks n0 w' G' a'.defers/\b2 gl w' G' ρ' lam' a'.tmps aU/\Good w G w' G'/\(∀i b:Nat,i≠a->ρ[i]?=some b->ρ'[i]?=some b)/\K aU
theorem aj'{d c:Nat}{ob:cc}{v:Nat->ah}(p:b6 n0 gl nt w G ρ lam a st)(m:o.dst=some d)(n:d<nt)(f:ρ[c]?=some 0)(h:Aj P o a w G ρ ob v)
  (l:K ({st with s:=st.s.set c ob}.set d (v c))):o.wp P a w (aj9 n0 gl nt c w G ρ K) Q:=by
 obtain⟨z,y,A,j,g,h⟩:=h;have t:=(aDA.1 f).1;have q:∀i b:Nat,ρ[i]?=some (b+1)->(ρ.set c (w.heap.size+1))[i]?=some (b+1):=az9;obtain⟨r,k⟩:=h c (ρ.set c (w.heap.size+1)) q az8;have e:=g.good p.rel.lt (L0:=.obj c) (n0:=0) az7;refine gg j ⟨aAe,_,ρ.set c (w.heap.size+1),lam,_,by rw[put_defers];exact p.eT.good e,?_,e,λi b u x=> ?_,l⟩
 .rw[m];exact p.rel.aj4 f g (aC2 n p.sz) r k
 grind
theorem aka{an:ey}{m:fh}{i:I}{ob:cc}{d:Nat}{v:Nat->ah}(p:b6 n0 gl nt w G ρ lam a st)(h:jA P an m o=some i)(f:ku gl i st=some (ob,d,v)):Aj P o a w G ρ ob v:=by
 unfold jA at h;split at h;case h_4=>
  rename_i e y j r;simp[aDt,aCL]at h;grind[zy,ku,aj5]
 case h_5=>
  rename_i e x y j r;simp[aDt,aCL,aCz]at h;obtain⟨n,q,s,J,rfl⟩:=h;split at f
  .simp[ku]at f;cases g:(Nat.beq (cellsOf (gT (aO gl st s))).length n&&(cellsOf (gT (aO gl st s))).all (eo depth))with
   |false=>simp_all
   |true=>
    rw[g]at f;grind[aj6]
  grind[ku]
 case h_15=>
  grind[ku,aj7]
 case h_21=>
  rename_i t l c y j r;simp only[aDt,aCL]at h;obtain⟨e,F,z,B,n,q,b,E,h⟩:=h;split at h
  .rename_i g;simp at g;simp[aCL,aCz]at h;obtain⟨K,A,rfl⟩:=h;have H:a.eval c=a.eval l:=by
    have:=g.1.1;unfold IQ at this;grind[Nat.eq_of_beq_eq_true]
   simp only[ku]at f;split at f
   .rename_i k n' C;cases u:(decide (0<=n')&&decide (n'<=((1099511627776/b:Nat):Int)))with
    |false=>grind
    |true=>
     rw[u]at f;simp at f;obtain⟨rfl,rfl,rfl⟩:=f;exact aj8 p j H A (uw F) q g.1.2 B E g.2 C u
   simp_all
  simp_all
 all_goals
  exfalso;revert f
  (repeat' (first
   |(simp[aDt,aCL,aDr,aCz,reduceCtorEq]at h)
   |(obtain⟨_,_,h⟩:=h)
   |(subst h;simp[ku];done)
   |(exact h.elim)
   |(split at h)))
 all_goals grind[ku]
def aDw:=@List.mem_range
def aF7:=@Array.all_eq_true_iff_forall_mem
def aES:=@List.pairwise_cons
def aDR:=@List.pairwise_append
def aFb:=@Bool.true_eq_false
theorem aAW(h:p:=by simp[cj]):p:=h
theorem aB7(h:p:=by have:=(aES.1 jI.2.1).1 j h;omega):p:=h
theorem x2{ops:Array Oper}{listed:Array Bool}(a:∀(j:Nat) (o:Oper),ops[j]?=some o->listed.getD j true=true->∀e∈o.after.toList,Region.binds .any e=true->listed.getD e.on false=true){x:Nat}:
  ∀(n j:Nat) (o:Oper),ops[j]?=some o->(∀e∈o.after.toList,Region.binds .any e=true->listed.getD e.on false=true)->lu ops x n j=true->listed.getD x false=true
 |0,j,o,_,_,h=>by grind[lu]
 |n+1,j,o,d,bn,h=>by
  simp only[lu,d,List.any_eq_true,aCx,aDY]at h;obtain⟨e,f,c,h⟩:=h;have g:=bn e f c;rcases h with h|h
  .grind[Nat.eq_of_beq_eq_true]
  .cases b:ops[e.on]? with
   |none=>
    cases n with
    |zero=>grind[lu]
    |succ n=>grind[lu]
   |some cO=>
    refine x2 a n e.on cO b (a e.on cO b ?_) h;grind
theorem F1{an:ey}{nt:Nat}{f:Array Oper}:∀(fuel:Nat) {l:List Oper} {m:fh} {a:List cm},l.length<=fuel->hV P an nt f m l=some a->a.length=l.length
 |_,[],m,a,_,h=>by
  grind[hV]
 |0,o::l,m,a,c,_=>az8
 |fuel+1,o::l,m,a,c,h=>by
  simp at c;rcases vS h with⟨g,i,h1,b,rfl⟩|⟨cO,n,j,d,ins,e,i,rfl,ai,k,he,b,rfl⟩
  .simp[F1 fuel az6 b]
  .simp at c;simp[F1 fuel az6 b]
theorem KA{an:ey}{nt:Nat}{f:Array Oper}:∀{l:List Oper} {m:fh} {a:List cm},hV P an nt f m l=some a->∀(i:Nat) (o:Oper),(∀j,j<=i->∀g,a[j]?=some g->oZ g.i=false)->l[i]?=some o->
  ∃m' g,a[i]?=some g/\rq P an m' o g.i/\pS f o=some g.g/\kX nt o=true/\g.i.dst=o.dst
 |[],m,a,h,i,o,_,b=>az8
 |o::l,m,a,h,i,w,k,b=>by
  rcases vS h with⟨g,u,h1,n,rfl⟩|⟨cO,E,B,d,ins,e,u,rfl,ai,C,he,n,rfl⟩
  .cases i with
   |zero=>
    simp at b;subst b;obtain⟨q,c2,r,t⟩:=xT h1;exact⟨m,g,rfl,q,c2,r,t⟩
   |succ i=>
    obtain⟨m',c,v,k2⟩:=KA n i w (λj x c p=>k (j+1) az6 c (by simpa using p)) (by simpa using b);exact⟨m',c,by simpa using v,k2⟩
  .obtain⟨s,z,F,y,H,A,rfl,G⟩:=vQ ai;have:=k 0 (aCu _) _ rfl;grind[oZ]
theorem akb{g:cm}{st:ag}{K:ag->Prop}:step1 (bA P gl) gl g st K=steps (bA P gl) gl [g] st K:=by
 obtain⟨q,i⟩:=g;cases q with
 |none=>rfl
 |some q=>
  simp_all[step1,steps]
theorem akc{ops:Array Oper}{i e:Nat}{an:ey}{m:fh}{g:cm}(p:b6 n0 gl nt w G ρ lam a st)(j:ops[i]?=some o)(h:rq P an m o g.i)
  (l:pS ops o=some g.g) (x:kX nt o=true) (k:g.i.dst=o.dst) (B:ic g.i=true->ρ[e]?=some 0) (c:kV (bA P gl) gl e g st K):
  wpOp P ops Q i (λa' w'=>nt<=a'.tmps.size/\∃G' ρ' lam' aU,Marks n0 w' G' a'.defers/\b2 gl w' G' ρ' lam' a'.tmps aU/\Good w G w' G'/\(∀i b:Nat,(ic g.i=true->i≠e)->ρ[i]?=some b->ρ'[i]?=some b)/\K aU) a w:=by
 unfold kV at c;cases bn:ic g.i with
 |true=>
  rw[bn]at c;split at c
  .rename_i ob d v E f;obtain⟨_,c⟩:=c;have F:=Rn f;have r:jA P an m o=some g.i:=by
    rcases h with h|h
    all_goals grind[ic]
   have u:o.dst=some d:=az8;have C:o.guard=none:=by
    grind[pS]
   have y:d<nt:=aBk;unfold wpOp;rw[j];have:Region.wanted o (yielded ops a.tmps)=true:=by grind[Region.wanted]
   simp[this,if_true];refine .inl ?_;have:=aj' (n0:=n0) (Q:=Q) p u y (B bn) (aka p r f) c;refine Oper.wp_mono (λa' w' h=> ?_) this;obtain⟨A,G',ρ',lam',aU,q,s,n,t,z⟩:=h;grind
  .exact c.elim
 |false=>
  rw[bn]at c;simp at c;rw[akb]at c;refine wpOp_mono (λa' w' h=> ?_) (J6 p j h l x k c);obtain⟨A,G',ρ',lam',aU,q,s,n,t,z⟩:=h;grind
theorem Rr{ops:Array Oper}{ts rest:List T}{an:ey}{n:Nat}(aJ:ts.length=ops.size)(aq:n<=ops.size)
  (sB:∀i,i<n->∀o,ops[i]?=some o->∃m' t,ts[i]?=some t/\rq P an m' o t.g.i/\pS ops o=some t.g.g/\kX nt o=true/\t.g.i.dst=o.dst)
  (nf:vF ops=true) (KB:∀i,n<=i->i<ops.size->(∀j,j<n->lu ops j ops.size i=true)\/(n<i/\lu ops n ops.size i=true))
  (uL:∀i j,i<j->j<n->lu ops i ops.size j=true\/v8 (ts.getD i ⟨0,default,{}⟩) (ts.getD j ⟨0,default,{}⟩))
  (zY:∀i j,i<n->j<n->i≠j->ic (ts.getD i ⟨0,default,{}⟩).g.i=true->ic (ts.getD j ⟨0,default,{}⟩).g.i=true->(ts.getD i ⟨0,default,{}⟩).id≠(ts.getD j ⟨0,default,{}⟩).id)
  (CJ:∀i,i<n->ic (ts.getD i ⟨0,default,{}⟩).g.i=true->ρ0.length<=(ts.getD i ⟨0,default,{}⟩).id)
  (eP:∀{listed:Array Bool} {w:World} {G:bL} {ρ:List Nat} {lam:Nat->Option Nat} {a:Act} {st:ag},listed.size=ops.size->(∀i,i<ops.size->(listed.getD i true=true↔i<n))->
   b6 n0 gl nt w G ρ lam a st->ji w0 G0 ρ0 w G ρ->rC P gl rest st K->wpAny P .any ops Q (ops.size-n) listed a w):∀(r:Nat) {rem:List Nat} {listed:Array Bool} {w:World} {G:bL} {ρ:List Nat} {lam:Nat->Option Nat} {a:Act} {st:ag},
  rem.length=r->listed.size=ops.size->rem.Pairwise (·< ·)->(∀i,i∈rem↔i<n/\listed.getD i true=false)->(∀i,n<=i->i<ops.size->listed.getD i true=false)->
  (∀(j:Nat) (o:Oper),ops[j]?=some o->listed.getD j true=true->∀e∈o.after.toList,Region.binds .any e=true->listed.getD e.on false=true)->
  (∀i,i∈rem->ic (ts.getD i ⟨0,default,{}⟩).g.i=true->ρ[(ts.getD i ⟨0,default,{}⟩).id]?=some 0)->
  b6 n0 gl nt w G ρ lam a st->ji w0 G0 ρ0 w G ρ->rC P gl (rem.map (λi=>ts.getD i ⟨0,default,{}⟩)++rest) st K->
  wpAny P .any ops Q (r+(ops.size-n)) listed a w:=by
 intro r;induction r with
 |zero=>
  intro rem listed w G ρ lam a st x cj jI s N A L p f F;have:=List.eq_nil_of_length_eq_zero x;subst this;rw[aDl];refine eP cj (λi z=> ?_) p f F;constructor
  .grind
  grind
 |succ r ih=>
  intro rem listed w G ρ lam a st x cj jI s N A L p f F;rw[Nat.succ_add];have V:∀i,i∈Region.ready .any ops listed↔(i<ops.size/\listed.getD i true=false)/\∀o,ops[i]?=some o->∀e∈o.after.toList,Region.binds .any e=true->listed.getD e.on false=true:=by
   intro i;unfold Region.ready;rw[List.mem_filter,aDw];constructor
   .rintro⟨k,c⟩;simp only[aCx,aCX]at c;refine⟨⟨k,c.1⟩,λo l e q m=> ?_⟩;have u:=c.2;rw[l]at u;simp only[aDD,aEr,aF7,aDY,aCX]at u;rcases u e (by simpa using q)with h|h
    .grind
    omega
   .rintro⟨⟨k,c⟩,u⟩;refine⟨k,?_⟩;simp only[aCx,aCX];refine⟨c,?_⟩;rw[aDh k];simp only[aDD,aEr,aF7,aDY,aCX];intro e q;cases m:Region.binds .any e with
    |false=>simp
    |true=>exact .inr (u _ (aDh k) e (by simpa using q) m)
  refine⟨λud=> ?_,λi z=> ?_⟩
  ·
   exfalso;cases rem with
   |nil=>grind
   |cons i rem=>
    have z:=by
     have hm:=(s i).1 az7;refine(V i).2 ⟨⟨az6,hm.2⟩,λo l e q m=> ?_⟩;have C:i<ops.size:=az6;unfold vF at nf;have k:=aCQ.1 nf i (aDw.2 C);rw[l]at k;simp only[aCQ,aDY,aCX]at k;have c:e.on<i:=by
      rcases k e q with h|h
      .grind
      .simpa [aFr]using h
     have u:e.on∉i::rem:=by
      intro h;rcases aCJ.1 h with h|h
      .omega
      .have:=(aES.1 jI).1 e.on h;omega
     have aZ:listed.getD e.on true=true:=by
      cases x:listed.getD e.on true with
      |true=>rfl
      |false=>exact absurd ((s e.on).2 ⟨az6,x⟩) u
     grind
    rw[ud]at z;simp at z
  .obtain⟨⟨C,e8⟩,H⟩:=(V i).1 z;have l:ops[i]?=some ops[i]:=aDh C;have y:i<n:=by
    rcases aDo i n with h|h
    .exact h
    .exfalso;cases rem with
     |nil=>simp at x
     |cons j rem=>
      have g:=(s j).1 az7;rcases KB i h C with hw|⟨wa,hw⟩
      .have:=x2 A ops.size i _ l (H _ l) (hw j g.1);have c:=g.2;rw[aDz,aDh (show j<listed.size by omega)]at this c;simp only[aEr]at this c;rw[this]at c;simp at c
      .have:=x2 A ops.size i _ l (H _ l) hw;have c:=N n (aCw _) az6;rw[aDz,aDh (show n<listed.size by omega)]at this c;simp only[aEr]at this c;rw[this]at c;simp at c
   have Z:i∈rem:=(s i).2 ⟨y,e8⟩;obtain⟨l1,J,rfl⟩:=List.append_of_mem Z;obtain⟨m',t,aF,c1,c2,c3,c4⟩:=sB i y _ l;have v:ts.getD i ⟨0,default,{}⟩=t:=by rw[aC4,aF];rfl
   rw[aCR,aDe,aDK,aEJ,v]at F;have KC:=Kz (l1:=l1.map λi=>ts.getD i ⟨0,default,{}⟩) (λad B=>by
    simp only[aCY]at B;obtain⟨j,g,rfl⟩:=B;have S:j∈l1++i::J:=aCN _ g;have fv:=(s j).1 S;have oA:j<i:=by
     rw[aDR]at jI;exact jI.2.2 j g i az7
    rcases uL j i oA y with hp|hp
    .exfalso;have:=x2 A ops.size i _ l (H _ l) hp;have c:=fv.2;rw[aDz,aDh (show j<listed.size by omega)]at this c;simp only[aEr]at this c;rw[this]at c;simp at c
    .rwa [v]at hp) F
   obtain⟨ao,e9,Y⟩:=KC;refine wpOp_mono ?_ (akc (Q:=Q) p l c1 c2 c3 c4 (λE=>by have:=L i Z;rw[v]at this;exact this E) (e9.mono (K:=λar=>ar=ao) rfl));rintro a' w' ⟨bG,G',ρ',lam',aU,q1,cM,dB,W,rfl⟩;have M:∀j d,(listed.setIfInBounds i true).getD j d=if j=i then true else listed.getD j d:=by
    intro j d;rw[aDz,aDz,aFl];by_cases h:i=j
    .subst h;simp[show i<listed.size by omega]
    .have dM:j≠i:=λe=>h e.symm;simp[h,dM]
   rw[<-aDK,<-aCR]at Y;have U:∀j,j∈l1++J->j∈l1++i::J/\j≠i:=by
    intro j g;rw[aDR]at jI;rcases aC9.1 g with h|h
    .exact⟨aCN _ h,by have:=jI.2.2 j h i az7;omega⟩
    .exact⟨aC7 _ (by simp[h]),aB7⟩
   refine ih (rem:=l1++J) ?_ aAW ?_ ?_ ?_ ?_ ?_ ⟨cM,q1,bG⟩ ⟨f.good.trans dB,λj b m=> ?_⟩ Y
   .simp only[aCF,aCU]at x⊢;omega
   .rw[aDR]at jI⊢;exact⟨jI.1,(aES.1 jI.2.1).2,λad B aB aQ=>jI.2.2 ad B aB (by simp[aQ])⟩
   .intro j;rw[M];by_cases g:j=i
    .subst g;simp only[if_true,aFb,and_false,iff_false];intro S;exact(U j S).2 rfl
    .simp only[g,aCW];rw[<-s j];simp[g]
   .intro j k c;rw[M,aCV az6];exact N j k c
   .intro j o rE R e q m;rw[M]at R⊢;by_cases g:j=i
    .subst g;rw[H o rE e q m];simp
    .simp only[g,aCW]at R;rw[A j o rE R e q m];simp
   .intro j g E;obtain⟨k,c⟩:=U j g;refine W _ _ (λCr=> ?_) (L j k E);have:=zY j i ((s j).1 k).1 y c E (by rw[v];omega);rw[v]at this;omega
   .have eX:=f.pre j b m;refine W j b (λCr=> ?_) eX;have:=CJ i y (by rw[v];omega);rw[v]at this;have:=(aDA.1 m).1;omega
def aEt:=@List.findIdx?_eq_some_iff_getElem
theorem aB8(h:p:=by rw[aDS];intro h;have:=aCG h;omega):p:=h
theorem b6.room(p:b6 n0 gl nt w G ρ lam a st)(n:Nat):b6 n0 gl nt w G (ρ++List.replicate n 0) lam a (st.room n):=by
 have c:∀L,e5 L L w G w G:=λ_ _ _ h=>⟨rfl,h⟩;have f:∀i b:Nat,ρ[i]?=some (b+1)->(ρ++List.replicate n 0)[i]?=some (b+1):=λi b h=>iP i _ h;refine⟨⟨λt=>(p.rel.aR t).b0 (de.refl _ _) f (λ_ _ h=>h) (c _),?_,p.rel.nb,⟨by simp[ag.room,p.rel.ob.1],?_⟩,p.rel.eU,p.rel.lt⟩,p.eT,p.sz⟩
 .intro t j d;obtain⟨b,k,g⟩:=p.rel.bM t j d;exact⟨b,k,dC.b0 (de.refl _ _) f (c _) (λ_=>c _) g⟩
 .intro i b o d e;rcases aDo i ρ.length with aE|aE
  .rw[aDj aE]at d;have l:i<st.s.length:=by rw[<-p.rel.ob.1];omega
   simp[ag.room]at e;rw[aDj l]at e;exact(p.rel.ob.2 i b o d e).b0 (de.refl _ _) f (c _) (λ_=>c _)
  grind
theorem KD:∀{l:List cm} {a j q:Nat},(nV l a)[j]?=some q->a<=q
 |[],_,_,_,h=>by grind[nV]
 |g::l,a,j,q,h=>by
  cases j with
  |zero=>grind[nV]
  |succ j=>
   simp[nV,aEq]at h;have:=KD h;grind
theorem Rt:∀{l:List cm} {a j q:Nat} {g:cm},(nV l a)[j]?=some q->l[j]?=some g->ic g.i=true->q<a+pP l
 |[],_,_,_,_,h,_,_=>az8
 |c::l,a,j,q,g,h,b,bn=>by
  cases j with
  |zero=>
   simp_all[nV,pP]
  |succ j=>
   simp[nV,aEq]at h;have:=Rt h az8 bn;simp[pP];grind
theorem KE:∀{l:List cm} {b i j q c:Nat} {g:cm},i<j->l[i]?=some g->ic g.i=true->(nV l b)[i]?=some q->(nV l b)[j]?=some c->q<c
 |[],_,_,_,_,_,_,_,_,_,h,_=>az8
 |f::l,b,i,j,q,c,g,e,d,bn,h,a=>by
  cases j with
  |zero=>omega
  |succ j=>
   cases i with
   |zero=>
    simp at d;subst d;simp[nV,aE6,aCz,aEq,bn,aC0]at h a;have:=KD a;omega
   |succ i=>
    simp[nV,aEq]at h a;exact KE az6 az8 bn h a
theorem Ru{ops:Array Oper}{a:List cm}{j:Nat}:∀{k:Nat} {l:List Nat},BR ops a j k=some l->∀i,i<k->∃b,IU ops a i j=some b/\(b=true->i∈l)
 |0,l,_,i,hi=>az6
 |k+1,l,h,i,hi=>by
  simp[BR]at h;split at h
  .rename_i e b h1 d;simp at h;subst h;by_cases c:i=k
   .simp_all
   .obtain⟨f,g,k2⟩:=Ru h1 i az6;grind
  simp_all
theorem Rv{ops:Array Oper}{b:List cm}:∀{n:Nat} {a:List (List Nat)},BS ops b n=some a->a.length=n/\∀j,j<n->BR ops b j j=some (a.getD j [])
 |0,a,h=>by
  grind[BS]
 |n+1,a,h=>by
  simp[BS]at h;split at h
  .rename_i l c h1 f;simp at h;subst h;obtain⟨d,k2⟩:=Rv h1;refine⟨by simp[d],λj g=> ?_⟩;by_cases e:j=n
   .subst e;rw[aC4,aDp az6,d];simpa using f
   .rw[aC4,aDj az6,<-aC4];exact k2 j az6
  .simp at h
theorem KF:∀{ts:List T} {st:ag} {K:ag->Prop},rC P gl ts st K->∀t,t∈ts->∃c d,qc P gl t.id t.g c d t.E
 |[],_,_,_,t,aK=>az8
 |x::ts,st,K,h,t,aK=>by
  obtain⟨aU,b,a⟩:=h;rcases aCJ.1 aK with rfl|aK
  .exact⟨st,aU,b⟩
  .exact KF a t aK
theorem ake{x y:T}(d:zt x.g y.g=true)(h:Rp x y):v8 x y:=by
 obtain⟨n,o,c,b,h⟩:=h;unfold BM at h;simp at h;obtain⟨⟨⟨⟨⟨⟨⟨l,f⟩,g⟩,e⟩,i⟩,j⟩,m⟩,k⟩:=h;refine⟨d,λt a=> ?_,λt a=> ?_,ajz c b g e i j m k⟩
 .rw[c.k]at a;have:=s0 l t a;simp_all
 .rw[b.k]at a;have:=s0 f t a;simp_all
theorem akf{x y:T}(b:∃s w,qc P gl x.id x.g s w x.E)(a:∃s w,qc P gl y.id y.g s w y.E)(A:zt x.g y.g=true)(p:EE x.g y.g=true):v8 x y:=by
 obtain⟨_,_,b⟩:=b;obtain⟨_,_,a⟩:=a;have f:=A;unfold zt at f;unfold EE at p;simp at f p;obtain⟨⟨⟨l,m⟩,N⟩,Q⟩:=f;obtain⟨⟨⟨k,g⟩,aX⟩,M⟩:=p;have l:=s0 l;have m:=s0 m;have k:=s0 k;have g:=s0 g;refine⟨A,λt d=>⟨λh=>k t (b.k t d) (aCN _ h),λh=>m t h (aCN _ (vZ (FZ (b.k t d))))⟩,λt d=>⟨g t (a.k t d),λh=>l t h (aCN _ (vZ (FZ (a.k t d))))⟩,?_⟩;have E:∀{X Y:iF},X.rd=[]/\X.ro=[]/\X.len=none->X.ws=[]->FP X Y:=by
  intro X Y e j;refine⟨λu _=> ?_,λu C=>az8,λu C=>az8,⟨λi r _ q L=>az8,λn _=>⟨az8,az8,e.2.2⟩⟩,⟨λi r C=>az8,λn B=>az8⟩⟩;cases u with
  |c i off v=>exact⟨az8,az8⟩
  |o i r=>exact⟨az8,az8⟩
  |n r=>exact e.2.2
 have J:∀{X Y:iF},Y.rd=[]/\Y.ro=[]/\Y.len=none->Y.ws=[]->FP X Y:=by
  intro X Y e j;have:=E (Y:=X) e j;exact⟨this.QY,this.QX,λu _ v R=>az8,this.QZ,this.ajv⟩
 cases G:x.g.i.rs with
 |false=>
  have z:x.g.i.ws=false:=by
   grind[ajZ]
  exact E (b.r0 G) (b.w0 z).1
 |true=>
  cases K:y.g.i.rs with
  |false=>
   have z:y.g.i.ws=false:=az8;exact J (a.r0 K) (a.w0 z).1
  |true=>
   have F:x.g.i.ws=false:=az8;have H:y.g.i.ws=false:=az8;have e:=b.w0 F;have j:=a.w0 H;exact⟨az8,az8,az8,⟨az8,λn B=>az8⟩,⟨az8,λn B=>az8⟩⟩
theorem uM{ts:List T}{i:Nat}(h:i<ts.length):ts[i]?=some (ts.getD i ⟨0,default,{}⟩):=az8
def Rx(P:Program)(gl:Nat->List D):Prop:=
 ∀{n0 nt:Nat} {g:ey} {m:fh} {b:Array Oper} {c:List cm} {d:List T} {k:Nat} {e:Array Bool} {w w0:World} {G G0:bL} {ρ ρ0:List Nat} {lam:Nat->Option Nat} {a:Act} {st:ag} {K:ag->Prop} {Q:Exit->Act->World->Prop},
  hV P g nt b m b.toList=some c->d.map (·.g)=c->sn c=some k->EO b c k=true->vF b=true->e.size=b.size->(∀i,i<b.size->(e.getD i true=true↔i<k))->
  b6 n0 gl nt w G ρ lam a st->ji w0 G0 ρ0 w G ρ->rC P gl (d.drop k) st K->(∀i j,i<j->k+3<=i->j<b.size->lu b i b.size j=true\/v8 (d.getD i ⟨0,default,{}⟩) (d.getD j ⟨0,default,{}⟩))->(∀f w',cP n0 gl nt w0 G0 ρ0 K f w'->Q .normal f w')->wpAny P .any b Q (b.size-k) e a w
theorem aki{a:Type}{b:Bool}{x:Option a}{y:a}(h:(if b=true then x else none)=some y):b=true/\x=some y:=az8
theorem akj(P:Program)(gl:Nat->List D)(ao:Rx P gl):xU P gl:=by
 intro n0 nt an aB id ops m dF w G ρ lam a st K y F p hs;obtain⟨zO,F⟩:=aki F
 .simp at zO;obtain⟨⟨⟨h1,E⟩,av⟩,l⟩:=zO;obtain⟨n6,cs⟩:=Rv F;refine wp_region_any h1 ?_;obtain⟨p',q⟩:=p.drawn (w.drawn+1);have S:=p'.room (pP m);obtain⟨ts,z,k2,gU,ow⟩:=Rq (acc:=[]) (ts:=[]) av az7 rfl hs;have e8:=F1 ops.toList.length (aCw _) y;have ui:ts.length=ops.size:=az9;have v:∀i,i<ops.size->m[i]?=some (ts.getD i ⟨0,default,{}⟩).g:=az9;have t:∀i,i<ops.size->(nV m st.s.length)[i]?=some (ts.getD i ⟨0,default,{}⟩).id:=az9;have L:∀i j,i<j->j<ops.size->zz (sn m) i j=false->lu ops i ops.size j=true\/v8 (ts.getD i ⟨0,default,{}⟩) (ts.getD j ⟨0,default,{}⟩):=by
   intro i j s d x;obtain⟨b,f,r⟩:=Ru (cs j d) i s;unfold IU at f;rw[v i az6,v j d]at f;simp only[x,Bool.or_false]at f;split at f
   .simp_all
   .right;split at f
    .rename_i ai;simp only[aCz]at f;cases eI:EE (ts.getD i ⟨0,default,{}⟩).g (ts.getD j ⟨0,default,{}⟩).g with
     |true=>exact akf (KF z _ (aC8 (uM az6))) (KF z _ (aC8 (uM az6))) ai eI
     |false=>
      rw[eI]at f;obtain⟨s3,b7,cq⟩:=ow j _ (uM az6) i (r f.symm);grind[ake]
    simp_all
  have zY:∀i j,i<ops.size->j<ops.size->i≠j->ic (ts.getD i ⟨0,default,{}⟩).g.i=true->ic (ts.getD j ⟨0,default,{}⟩).g.i=true->(ts.getD i ⟨0,default,{}⟩).id≠(ts.getD j ⟨0,default,{}⟩).id:=by
   intro i j c d cd ar ay;rcases Nat.lt_or_gt_of_ne cd with h|h
   .have:=KE h (v i c) ar (t i c) (t j d);omega
   .have:=KE h (v j d) ay (t j d) (t i c);omega
  have A:∀i,i<ops.size->ic (ts.getD i ⟨0,default,{}⟩).g.i=true->ρ.length<=(ts.getD i ⟨0,default,{}⟩).id:=by
   intro i c _;rw[p.rel.ob.1];exact KD (t i c)
  have ad:∀i,i<ops.size->ic (ts.getD i ⟨0,default,{}⟩).g.i=true->(ρ++List.replicate (pP m) 0)[(ts.getD i ⟨0,default,{}⟩).id]?=some 0:=by
   intro i c u;have aA:=Rt (t i c) (v i c) u;have Y:=A i c u;rw[aDp Y,List.getElem?_replicate,aCT (by rw[p.rel.ob.1]at Y⊢;omega)]
  have U:ji w G ρ {w with drawn:=w.drawn+1} G (ρ++List.replicate (pP m) 0):=⟨q,λi b h=>iP i b h⟩;have N:∀(n:Nat),n<=ops.size->∀i,i∈List.range n↔i<n/\(Array.replicate ops.size false).getD i true=false:=by
   intro n aq i;simp only[aDw];constructor
   .intro h;refine⟨h,?_⟩;rw[aDz];grind
   omega
  have gW:∀(n:Nat),∀i,n<=i->i<ops.size->(Array.replicate ops.size false).getD i true=false:=az9;have iT:∀(j:Nat) (o:Oper),ops[j]?=some o->(Array.replicate ops.size false).getD j true=true->∀e∈o.after.toList,Region.binds .any e=true->(Array.replicate ops.size false).getD e.on false=true:=az9;have R:∀(n:Nat),n<=ops.size->((List.range n).map λi=>ts.getD i ⟨0,default,{}⟩)=ts.take n:=by
   intro n aq;apply aEm;intro i;rw[aDC,aD0];by_cases c:i<n
   .rw[List.getElem?_range c,aCT c,uM az6];rfl
   grind
  cases aK:sn m with
  |none=>
   have x:∀i j,zz (sn m) i j=false:=λi j=>by rw[aK];rfl
   have H:∀j:Nat,∀g,m[j]?=some g->oZ g.i=false:=by
    grind[sn]
   have:=Rr (P:=P) (gl:=gl) (n0:=n0) (nt:=nt) (w0:=w) (G0:=G) (ρ0:=ρ) (K:=K .normal) (Q:=kH n0 gl nt w G ρ K) (ops:=ops) (ts:=ts) (rest:=[]) (an:=an) (n:=ops.size) ui (aCw _)
    (λi c o W=>by
     obtain⟨m',g,f,r⟩:=KA y i o (λj _ g q=>H j g q) az9;grind[uM])
    E (λi h dM=>az6) (λi j s d=>L i j s d (x i j)) zY A
    (λ{listed w' G' ρ' lam' V aU} Z J B C M=>by
     rw[Nat.sub_self];refine⟨?_,C.after (B.after M)⟩;unfold Region.ready;rw[List.filter_eq_nil_iff];intro i c;have:=(J i (aDw.1 c)).2 (aDw.1 c);simp[this])
    ops.size (rem:=List.range ops.size) (listed:=Array.replicate ops.size false) az7 az7 List.pairwise_lt_range (N _ (aCw _)) (gW _) iT
    (λi c u=>ad i (aDw.1 c) u) S U (by rw[R _ (aCw _),aDd az6,aDI];exact z)
   grind
  |some k=>
   rw[aK]at l;simp at l;have ov:=by
    unfold sn at aK;have:=(aEt.1 aK).1;rw[e8]at this;simpa using this
   have H:∀j:Nat,j<k->∀g,m[j]?=some g->oZ g.i=false:=by
    intro j d g q;unfold sn at aK;obtain⟨f,r,cM⟩:=aEt.1 aK;have:=cM j d;rw[aCB az6]at q;simp at q;rw[q]at this;simpa using this
   have x:∀i j,j<k->zz (sn m) i j=false:=by
    intro i j d;rw[aK];unfold zz;have:Nat.blt (k+2) j=false:=by
     rw[aDS];intro h;rw[aFr]at h;omega
    simp[this]
   have KB:∀i,k<=i->i<ops.size->(∀j,j<k->lu ops j ops.size i=true)\/(k<i/\lu ops k ops.size i=true):=by
    unfold EO at l;split at l
    .split at l
     .simp only[aCx,aCQ,aDw,aDY]at l;intro i c jY;by_cases Am:i=k
      .subst Am;exact .inl λj d=>l.1.1.1 j d
      .refine .inr ⟨az6,?_⟩;rcases l.1.1.2 i jY with h|h
       .have:=aCM h;omega
       .exact h
     .simp at l
    .simp at l
   have:=Rr (P:=P) (gl:=gl) (n0:=n0) (nt:=nt) (w0:=w) (G0:=G) (ρ0:=ρ) (K:=K .normal) (Q:=kH n0 gl nt w G ρ K) (ops:=ops) (ts:=ts) (rest:=ts.drop k) (an:=an) (n:=k) ui az6
    (λi c o W=>by
     obtain⟨m',g,f,r⟩:=KA y i o (λj d g q=>H j az6 g q) (by simpa using W);rw[v i az6]at f;simp at f;subst f;exact⟨m',_,uM az6,r⟩)
    E KB (λi j s d=>L i j s az6 (x i j d)) (λi j c d=>zY i j az6 az6) (λi c=>A i az6)
    (λ{listed w' G' ρ' lam' V aU} Z J B C M=>ao y k2 aK l E Z J B C M (λi j s c d=>L i j s d (by
     rw[aK];unfold zz;have f:Nat.beq i (k+1)=false:=aB8;have r:Nat.beq i (k+2)=false:=aB8;simp[f,r])) λV w' h=>h)
    k (rem:=List.range k) (listed:=Array.replicate ops.size false) az7 az7 List.pairwise_lt_range (N _ az6) (gW _) iT
    (λi c u=>ad i (by have:=aDw.1 c;omega) u) S U (by rw[R _ az6,List.take_append_drop];exact z)
   rwa [show k+(ops.size-k)=ops.size by omega]at this
def uN(G:bL)(b:Nat):Prop:=∃L n,G b=some (L,n)/\(∀i,L≠.obj i)/\∀t,L≠.sr t
theorem uN.da{b:Nat}{s d:Loc}(h:uN G b)(f:(∀i,d≠.obj i)/\∀t,d≠.sr t):uN (da (fe s d) G) b:=by
 obtain⟨L,n,a,c,e⟩:=h;refine⟨fe s d L,n,BX a,?_⟩;grind[fe]
inductive Ao(P:Program)(gl:Nat->List D)(w:World)(G:bL)(ρ:List Nat)(lam:Nat->Option Nat)(a:Act)(K:ag->Prop)(o:Oper)(b:Nat):Prop
 |st (aT off:Nat) (vs:List Value) (c:Array Value) (E:TypeId) (fz:Nat×Nat) (G':bL) (aU:ag):aT≠b->o.dst=none->w.heap[aT]?=some (.cells c E fz)->off+vs.length<=c.size->
   (∀w':World,w'.heap[aT]?=some (.cells c E fz)->(execOp a.eval o).run P w'=.ok .skip (w'.setCells aT off vs))->b2 gl (w.setCells aT off vs) G' ρ lam a.tmps aU->Good w G (w.setCells aT off vs) G'->uN G' b->K aU->Ao P gl w G ρ lam a K o b
 |kv (d:Nat) (v:Value) (aU:ag):o.dst=some d->(∀w':World,(execOp a.eval o).run P w'=.ok (.value v) w')->b2 gl w G ρ lam (a.tmps.setIfInBounds d v) aU->K aU->Ao P gl w G ρ lam a K o b
theorem F4{b d off t n:Nat}{cs:List ah}{L:Loc}{LC:Nat->Loc}{x y:Operand}(g:dC w G ρ d L LC cs)(z:o.op=.store t x y)(H:a.eval x=.pointer (some ⟨d,off,none⟩))(F:(a.eval y).cells.size=n)(r:off+n<=cs.length)(m:df P t=some n)(h:∀u∈(a.eval y).cells.toList,u.oneCell'=true)
  (j:uN G b) (B:(∃i,L=.obj i)\/∃t,L=.sr t):
  ∃(c:Array Value) (E:TypeId) (fz:Nat×Nat),d≠b/\w.heap[d]?=some (.cells c E fz)/\off+(a.eval y).cells.toList.length<=c.size/\
   ∀w':World,w'.heap[d]?=some (.cells c E fz)->(execOp a.eval o).run P w'=.ok .skip (w'.setCells d off (a.eval y).cells.toList):=by
 obtain⟨c,E,fz,f,e,aX,A,C⟩:=g;refine⟨c,E,fz,?_,f,az9,λw' k=> ?_⟩
 .rintro rfl;obtain⟨l,J,q,s,p⟩:=j;simp_all
 .have:=Qw (P:=P) (w:=w') (t:=t) (v:=a.eval y) (off:=off) k e az6 az8 h;grind[execOp,Sem.run_bind,Result.andThen_ok,Sem.run_pure]
theorem akn{t tb off n t1 t2 b:Nat}{x y:Operand}{N V:O}(p:b6 n0 gl nt w G ρ lam a st)(i:uN G b)(M:o.dst=none)(J:o.op=.store t x y)(Z:bW P t1 x=some N)(Y:bW P t2 y=some V)
  (H:df P t=some n) (d:step (bA P gl) gl (.ls N tb off V n) st K):Ao P gl w G ρ lam a K o b:=by
 obtain⟨fC,C⟩:=dY Z p.rel;simp[step]at d;split at d
 .rename_i e h cs aj j;obtain⟨F,d⟩:=d;simp only[aCx]at F;obtain⟨⟨⟨⟨W,bg⟩,U⟩,S⟩,fW⟩:=F;obtain rfl:e=tb:=aCG W;obtain rfl:h=off:=aCG bg;have U:=aCG U;rw[aj]at C;obtain⟨cr,k,R⟩:=C;obtain⟨ao,u,Q⟩:=p.rel.bM e cs j;rw[u]at k;simp at k;subst k;rcases E7 p Y fW with⟨A,bx,h1⟩|⟨s,z,rfl,fK,A,gX,jD,h1,jf⟩
  .have m:(a.eval y).cells.size=n:=by grind[Array.length_toList,cu.length]
   obtain⟨c,E,v,B,l,f,g⟩:=F4 Q J R m (aCM S) H h1 i (.inr ⟨_,rfl⟩);obtain⟨r,q⟩:=b2.Jg p.rel j u bx;rw[A]at d;exact .st _ _ _ c E v G _ B M l f g r q i d
  .have m:(a.eval y).cells.size=n:=by grind[Array.length_toList]
   obtain⟨c,E,v,B,l,f,g⟩:=F4 Q J R m (aCM S) H az8 i (.inr ⟨_,rfl⟩);have lA:=p.rel.E8 (s:=s) (L:=.sq e h);have xC:=by
    have:=o1 (w:=w) (G:=G) (fe (.slot s) (.sq e h)) (.slot s);rw[tS]at this;exact jf.b0 (kz _) (λ_ _ ad=>ad) this
   obtain⟨r,q⟩:=b2.Jf (off:=h) lA (show(st.set s .undef).bM e=some cs from j) u xC;rw[A,gX]at d;rw[jD]at f g;exact .st _ _ _ c E v _ _ B M l f g r ((q6 p.rel.lt az7 az7).trans q) (i.da ⟨az7,az7⟩) d
 .exact d.elim
theorem ako{t n t1 t2 Q:Nat}{x y:Operand}{H S:O}(p:b6 n0 gl nt w G ρ lam a st)(h:uN G Q)(F:o.dst=none)(C:o.op=.store t x y)(V:bW P t1 x=some H)(U:bW P t2 y=some S)
  (B:df P t=some n) (d:step (bA P gl) gl (.hs H S n) st K):Ao P gl w G ρ lam a K o Q:=by
 obtain⟨fC,v⟩:=dY V p.rel;simp only[step]at d;split at d
 .rename_i i off W;rw[W]at v;have M:=v;obtain⟨b,au,f⟩:∃b,ρ[i]?=some (b+1)/\a.eval x=.pointer (some ⟨b,off,none⟩):=by
   cases f:a.eval x<;>rw[f]at M<;>cases M;simp_all
  split at d
  .rename_i cs aC;obtain⟨A,d⟩:=d;simp only[aCx]at A;obtain⟨⟨R,N⟩,Z⟩:=A;have R:=aCG R;have J:=aBG;rcases E7 p U Z with⟨r,Y,h1⟩|⟨s,z,rfl,fK,r,gX,jD,h1,jf⟩
   .have k:(a.eval y).cells.size=n:=by grind[Array.length_toList,cu.length]
    obtain⟨c,E,q,u,j,e,g⟩:=F4 J C f k (aCM N) B h1 h (.inl ⟨_,rfl⟩);obtain⟨m,l⟩:=b2.B8 au p.rel aC Y;rw[r]at d;exact .st _ _ _ c E q G _ u F j e g m l h d
   .have k:(a.eval y).cells.size=n:=by grind[Array.length_toList]
    obtain⟨c,E,q,u,j,e,g⟩:=F4 J C f k (aCM N) B az8 h (.inl ⟨_,rfl⟩);have lA:=p.rel.E8 (s:=s) (L:=.dk i off);have xC:=by
     have:=o1 (w:=w) (G:=G) (fe (.slot s) (.dk i off)) (.slot s);rw[tS]at this;exact jf.b0 (kz _) (λ_ _ ad=>ad) this
    obtain⟨m,l⟩:=b2.Jh (off:=off) lA (show(st.set s .undef).s.getD i .dead=.box cs from aC) au xC;rw[r,gX]at d;rw[jD]at e g;exact .st _ _ _ c E q _ _ u F j e g m ((q6 p.rel.lt az7 az7).trans l) (h.da ⟨az7,az7⟩) d
  .exact d.elim
 .exact d.elim
theorem akp{d f B:Nat}{x:Operand}{v:O}{t C n:Nat}{y:Array Field}{l:Field}(p:b6 n0 gl nt w G ρ lam a st)(q:o.dst=some d)(A:d<nt)(H:o.op=.fieldAddr t x f)(z:bW P C x=some v)
  (N:P.underlying t=some (.struct y)) (J:y[f]?=some l) (E:df P l.type=some n) (M:0<n) (h:step (bA P gl) gl (.gJ d v l.offset) st K):Ao P gl w G ρ lam a K o B:=by
 obtain⟨L,g⟩:=dY z p.rel;have u:=aC2 A p.sz;have r:∀b e,a.eval x=.pointer (some ⟨b,e,none⟩)->∀w:World,(execOp a.eval o).run P w=.ok (.value (.pointer (some ⟨b,e+l.offset,none⟩))) w:=by
  intro b e Q w;have F:¬n=0:=az6;simp_all[execOp,Instr.fieldAt,eN,Instr.sureAddr,fieldPlace,kA,aDv]
 simp[step]at h;split at h
 .rename_i i e j;rw[j]at g;have k:=g;obtain⟨b,m,c⟩:∃b,ρ[i]?=some (b+1)/\a.eval x=.pointer (some ⟨b,e,none⟩):=by
   cases c:a.eval x<;>rw[c]at k<;>cases k;simp_all
  exact .kv d _ _ q (r _ _ c) (p.rel.set u (.cz (.ptr _ _ _ m))) h
 .rename_i s e j;rw[j]at g;obtain⟨b,m,c⟩:=g;exact .kv d _ _ q (r _ _ c) (p.rel.set u (show dq w G ρ lam _ _ (.dw s (e+l.offset))from⟨b,m,rfl⟩)) h
 .rename_i cs e j;rw[j]at g;have k:=g.je;cases c:a.eval x<;>rw[c]at k<;>cases k;rename_i b base vs az aA;exact .kv d _ _ q (r _ _ c) (p.rel.set u (.cz (.d _ _ aBA))) h
 .exact h.elim
theorem akq{b a d c:Nat}{v u:Value}(h:b≠a)(w:World):(w.setCell ⟨b,d,none⟩ v).setCell ⟨a,c,none⟩ u=(w.setCell ⟨a,c,none⟩ u).setCell ⟨b,d,none⟩ v:=by
 simp only[World.setCell];congr 1;grind
theorem RC{b a d:Nat}{u:Value}(h:b≠a):∀{us:List Value} {c:Nat} {w:World},(w.setCells b c us).setCell ⟨a,d,none⟩ u=(w.setCell ⟨a,d,none⟩ u).setCells b c us
 |[],_,_=>rfl
 |v::us,c,w=>by
  simp[World.setCells];rw[RC h,akq h]
theorem RD{b a:Nat}(h:b≠a){us:List Value}{d:Nat}:∀{vs:List Value} {c:Nat} {w:World},(w.setCells b d us).setCells a c vs=(w.setCells a c vs).setCells b d us
 |[],_,_=>rfl
 |v::vs,c,w=>by
  simp[World.setCells];rw[RC h,RD h]
theorem KJ{b a:Nat}(h:a≠b):∀{us:List Value} {c:Nat} {w:World},(w.setCells b c us).heap[a]?=w.heap[a]?
 |[],_,_=>rfl
 |v::us,c,w=>by
  simp[World.setCells];rw[KJ h];simp[World.setCell,aEl];simp[aCP h]
theorem akr{an:ey}{m:fh}{g:I}{b:Nat}(p:b6 n0 gl nt w G ρ lam a st)(y:uN G b)(h:rq P an m o g)(r:kX nt o=true)
  (i:(∃t s f,o.op=.fieldAddr t (.tmp s) f)\/(∃t s x,o.op=.store t (.tmp s) x)) (k:step (bA P gl) gl g st K):Ao P gl w G ρ lam a K o b:=by
 rcases h with h|rfl
 .rcases i with⟨t,s,f,e⟩|⟨t,s,x,e⟩
  .obtain⟨d,c⟩:∃d,o.dst=some d:=by
    cases c:o.dst with
    |none=>simp_all[jA]
    |some d=>simp
   simp[jA,e,c]at h;have v:d<nt:=aBk;split at h
   .rename_i fs hu;split at h
    .rename_i j q;split at h
     .rename_i aM;simp at h;obtain⟨u,l,rfl⟩:=h;cases z:df P j.type with
      |none=>simp_all
      |some n=>
       grind[akp]
     simp_all
    simp_all
   simp_all
  .have c:o.dst=none:=by
    cases c:o.dst with
    |none=>rfl
    |some d=>simp_all[jA]
   simp[jA,e,c,aDt,aCL]at h;grind[akn,ako]
 .exact k.elim
theorem least{f:Nat->Bool}:∀(n:Nat),(∃i,i<n/\f i=false)->∃i,i<n/\f i=false/\∀j,j<i->f j=true
 |0,h=>az6
 |n+1,h=>by
  by_cases a:∃i,i<n/\f i=false
  .obtain⟨i,b,k2⟩:=least n a;exact⟨i,az6,k2⟩
  .obtain⟨i,b,k2⟩:=h;have e:i=n:=by
    rcases aDo i n with h|h
    .exact absurd ⟨i,h,k2⟩ a
    .omega
   subst e;refine⟨i,b,k2,λj c=> ?_⟩;cases d:f j with
   |true=>rfl
   |false=>exact absurd ⟨j,c,d⟩ a
theorem KL{ops:Array Oper}{listed:Array Bool}(i:Nat):i∈Region.ready .any ops listed↔(i<ops.size/\listed.getD i true=false)/\∀o,ops[i]?=some o->∀e∈o.after.toList,Region.binds .any e=true->listed.getD e.on false=true:=by
 unfold Region.ready;rw[List.mem_filter,aDw];constructor
 .rintro⟨d,a⟩;simp only[aCx,aCX]at a;refine⟨⟨d,a.1⟩,λo c e g f=> ?_⟩;have b:=a.2;rw[c]at b;simp only[aDD,aEr,aF7,aDY,aCX]at b;grind
 grind
theorem RE{ops:Array Oper}{listed:Array Bool}(b:vF ops=true)(k:listed.size=ops.size)(h:∃i,i<ops.size/\listed.getD i true=false):Region.ready .any ops listed≠[]:=by
 obtain⟨i,a,c,g⟩:=least ops.size h;have m:=by
  refine(KL i).2 ⟨⟨a,c⟩,λo j e l f=> ?_⟩;unfold vF at b;have d:=aCQ.1 b i (aDw.2 a);grind[Nat.blt_eq]
 grind
theorem Ap{d t:Nat}{v:Value}(h:t≠d):(a.put (some d) v).tmps.getD t undef=a.tmps.getD t undef:=by
 simp_all[Act.put,aCP]
def aFv:=@false_iff
theorem aks{an:ey}{m:fh}{c:I}(h:rq P an m o c)
  (e:(∃t s f,o.op=.fieldAddr t (.tmp s) f)\/(∃t s x,o.op=.store t (.tmp s) x)):ic c=false:=by
 rcases h with h|rfl
 .rcases e with⟨t,s,f,b⟩|⟨t,s,x,b⟩
  .obtain⟨d,a⟩:∃d,o.dst=some d:=by
    cases a:o.dst with
    |none=>simp_all[jA]
    |some d=>simp
   simp[jA,b,a]at h;split at h
   .split at h
    .split at h
     .obtain⟨l,j,rfl⟩:=h;rfl
     simp_all
    simp_all
   simp_all
  .have a:o.dst=none:=by
    cases a:o.dst with
    |none=>rfl
    |some d=>simp_all[jA]
   simp[jA,b,a,aDt,aCL]at h;obtain⟨n,k,y,i,z,g,h⟩:=h;split at h
   .simp at h;subst h;rfl
   .simp at h;subst h;rfl
 .rfl
theorem RF{xo:Operand}{q:Nat}{v:Value}(h:∀b,xo=.tmp b->q≠b):(a.put (some q) v).eval xo=a.eval xo:=eval_put (λb c=>aCP (h b c))
theorem akt{ops:Array Oper}{ts:List T}{an:ey}{k d e i0 b pos:Nat}{W Z:Oper}{xo:Operand}{v1 v2 vi vx:Value}{us:List Value}{c1:Array Value}{E:TypeId}{fz:Nat×Nat}
  (nf:vF ops=true) (lU:ops[k+1]?=some W) (fk:W.guard=none) (k7:W.dst=some e) (ru:ops[k+2]?=some Z) (mY:Z.guard=none) (FT:Z.dst=none) (he:e<nt)
  (p9:∀(a':Act) (w':World),a'.tmps.getD d undef=v1->a'.tmps.getD i0 undef=vi->(execOp a'.eval W).run P w'=.ok (.value v2) w')
  (FF:∀(a':Act) (w':World),a'.tmps.getD e undef=v2->a'.eval xo=vx->w'.heap[b]?=some (.cells c1 E fz)->(execOp a'.eval Z).run P w'=.ok .skip (w'.setCells b pos us))
  (aB:d≠e) (aJ:i0≠e) (KM:∀q,xo=.tmp q->e≠q) (aM:lu ops (k+1) ops.size (k+2)=true)
  (sB:∀i,k+3<=i->i<ops.size->∀o,ops[i]?=some o->∃m' t,ts[i]?=some t/\rq P an m' o t.g.i/\t.g.g=none/\o.guard=none/\kX nt o=true/\t.g.i.dst=o.dst/\
   ((∃t s f,o.op=.fieldAddr t (.tmp s) f)\/(∃t s x,o.op=.store t (.tmp s) x))/\
   (∀q,o.dst=some q->d≠q/\i0≠q/\e≠q/\∀q',xo=.tmp q'->q≠q')/\e∉t.g.rd)
  (uL:∀i j,i<j->k+3<=i->j<ops.size->lu ops i ops.size j=true\/v8 (ts.getD i ⟨0,default,{}⟩) (ts.getD j ⟨0,default,{}⟩))
  (aN:∀a' w',cP n0 gl nt w0 G0 ρ0 K a' w'->Q .normal a' w'):∀(r:Nat) {rem:List Nat} {ph:Nat} {listed:Array Bool} {w wv:World} {G:bL} {a:Act} {st:ag},
  rem.length+(2-ph)=r->ph<=2->listed.size=ops.size->rem.Pairwise (·< ·)->
  (∀i,i<ops.size->(listed.getD i true=false↔i∈rem\/(i=k+1/\ph<1)\/(i=k+2/\ph<2)))->(∀i,i∈rem->k+3<=i/\i<ops.size)->
  (∀(j:Nat) (o:Oper),ops[j]?=some o->listed.getD j true=true->∀e∈o.after.toList,Region.binds .any e=true->listed.getD e.on false=true)->
  b6 n0 gl nt wv G ρ lam a st->ji w0 G0 ρ0 wv G ρ->uN G b->(ph<2->wv=w.setCells b pos us/\w.heap[b]?=some (.cells c1 E fz))->(ph=2->wv=w)->
  a.tmps.getD d undef=v1->a.tmps.getD i0 undef=vi->a.eval xo=vx->(ph=1->a.tmps.getD e undef=v2)->st.aR e=.undef->
  rC P gl (rem.map (λi=>ts.getD i ⟨0,default,{}⟩)) st K->wpAny P .any ops Q r listed a w:=by
 have eZ:=(aC'.1 lU).1;have ho:=(aC'.1 ru).1;intro r;induction r with
 |zero=>
  intro rem ph listed w wv G a st aA KN cj jI l m iT p f J H L Y xR N R S F;have:rem=[]:=List.eq_nil_of_length_eq_zero az6;subst this;have aP:ph=2:=az6;have aS:=L aP;subst aS;refine⟨?_,aN _ _ (f.after (p.after F))⟩;unfold Region.ready;rw[List.filter_eq_nil_iff];intro i u;have u:=aDw.1 u;cases aE:listed.getD i true with
  |true=>simp
  |false=>
   rcases(l i u).1 aE with h|⟨_,h⟩|⟨_,h⟩
   .simp at h
   .omega
   .omega
 |succ r ih=>
  intro rem ph listed w wv G a st aA KN cj jI l m iT p f J H L Y xR N R S F;have jh:∀i,i<ops.size->∀j d,(listed.setIfInBounds i true).getD j d=if j=i then true else listed.getD j d:=by
   intro i u j d;by_cases h:i=j
   .subst h;simp[show i<listed.size by omega]
   .have dM:j≠i:=λe=>h e.symm;simp[h,dM]
  have zZ:∀i,i<ops.size->(∀o,ops[i]?=some o->∀e∈o.after.toList,Region.binds .any e=true->listed.getD e.on false=true)->∀(j:Nat) (o:Oper),ops[j]?=some o->(listed.setIfInBounds i true).getD j true=true->∀e∈o.after.toList,Region.binds .any e=true->(listed.setIfInBounds i true).getD e.on false=true:=by
   intro i u y j o rE rF e he au;rw[jh i u]at rF⊢;by_cases g:j=i
   .subst g;rw[y o rE e he au];simp
   .simp only[g,aCW]at rF;rw[iT j o rE rF e he au];simp
  refine⟨λud=> ?_,λi u=> ?_⟩
  .refine absurd ud (RE nf cj ?_);by_cases n:ph<2
   .exact⟨k+2,ho,(l _ ho).2 (.inr (.inr ⟨rfl,n⟩))⟩
   .cases rem with
    |nil=>simp at aA;omega
    |cons j rem=>
     have:=m j az7;exact⟨j,this.2,(l j this.2).2 (.inl az7)⟩
  .obtain⟨⟨A,e8⟩,y⟩:=(KL i).1 u;have B:=aDh A;rcases(l i A).1 e8 with nR|⟨rfl,h1⟩|⟨rfl,n⟩
   ·
    obtain⟨l1,z,rfl⟩:=List.append_of_mem nR;have F8:=m i nR;obtain⟨m',t,aF,RG,c2,c3,c4,c5,eA,bQ,eQ⟩:=sB i F8.1 A _ B;have lW:ts.getD i ⟨0,default,{}⟩=t:=by rw[aC4,aF];rfl
    rw[aCR,aDe,lW]at F;have KC:=Kz (l1:=l1.map λi=>ts.getD i ⟨0,default,{}⟩) (λx U=>by
     simp at U;obtain⟨j,g,rfl⟩:=U;have uq:j∈l1++i::z:=aCN _ g;have RH:=m j uq;have M:=by
      rw[aDR]at jI;exact jI.2.2 j g i az7
     rcases uL j i M RH.1 A with hp|hp
     .exfalso;have:=x2 iT ops.size i _ B (y _ B) hp;have n:=(l j RH.2).2 (.inl uq);rw[aDz,aDh (show j<listed.size by omega)]at this n;simp at this n;rw[this]at n;simp at n
     .rwa [lW]at hp) F
    obtain⟨ad,e9,k3⟩:=KC;rw[<-aCR]at k3;have aV:=by
     have:=e9.mono (K:=λs=>s=ad) rfl;unfold kV at this;rw[aks RG eA]at this;simp at this;unfold step1 at this;rw[c2]at this;omega
    have RI:ad.aR e=.undef:=by
     rw[e9.aR e (λh=> ?_) (λh=>eQ (vZ (FZ (e9.k e h))))]
     .omega
     .rcases Rh h with h|h
      .rw[c5]at h;exact(bQ e h).2.2.1 rfl
      .exact eQ (vZ h)
    have Al:∀j,j∈l1++z->j∈l1++i::z/\j≠i:=by
     intro j g;rw[aDR]at jI;rcases aC9.1 g with h|h
     .exact⟨aCN _ h,by have:=jI.2.2 j h i az7;omega⟩
     .exact⟨aC7 _ (by simp[h]),aB7⟩
    have RJ:(l1++z).Pairwise (·< ·):=by
     rw[aDR]at jI⊢;exact⟨jI.1,(aES.1 jI.2.1).2,λx U aZ aQ=>jI.2.2 x U aZ (by simp[aQ])⟩
    have uf:(l1++z).length+(2-ph)=r:=by simp at aA⊢;omega
    have RL:∀j,j<ops.size->((listed.setIfInBounds i true).getD j true=false↔j∈l1++z\/(j=k+1/\ph<1)\/(j=k+2/\ph<2)):=by
     intro j g;rw[jh i A];by_cases M:j=i
     .subst M;simp only[if_true,aFb,aFv,not_or];exact⟨λh=>(Al j h).2 rfl,λh=>az6,λh=>az6⟩
     .simp only[M,aCW];rw[l j g];simp[M]
    cases akr p J RG c4 eA aV with
    |st aT off vs c ub pY G' aU q1 bG cM dB gE jW pb p7 rm=>
     subst rm;have ao:w.heap[aT]?=some (.cells c ub pY):=by
      rcases aDo ph 2 with h|h
      .rw[<-cM,(H h).1,KJ q1]
      .rw[<-L az6];omega
     refine J7 B c3 (gE w ao) ?_;rw[bG];refine ih (rem:=l1++z) (ph:=ph) (wv:=wv.setCells aT off vs) uf KN aAW RJ RL (λj g=>m j (Al j g).1) (zZ i A y) ⟨jW,p.eT.good pb,p.sz⟩ ⟨f.good.trans pb,f.pre⟩ p7 (λh=> ?_) (λh=>by rw[L h]) Y xR N R RI k3;obtain⟨h1,n⟩:=H h;exact⟨by rw[h1,RD (aCP q1)],by rw[KJ (aCP q1)];omega⟩
    |kv q v aU q1 bG cM dB=>
     subst dB;obtain⟨bq,s4,b3,iH⟩:=bQ q q1;refine Cx B c3 (bG w) ?_;rw[q1];refine ih (rem:=l1++z) (ph:=ph) (wv:=wv) uf KN aAW RJ RL (λj g=>m j (Al j g).1) (zZ i A y) ⟨cM,p.eT,aAe⟩ f J H L (by rw[Ap bq];omega) (by rw[Ap s4];omega) (by rw[RF iH];omega) (λh=>by rw[Ap b3];exact R h) RI k3
   ·
    have aq:ph=0:=az6;subst aq;refine Cx lU fk (p9 a w Y xR) ?_;rw[k7];have sT:=aC2 he p.sz;have eC:st.set e .undef=st:=by
     obtain⟨aR,bM,s⟩:=st;simp[ag.set,ag.mk.injEq,aE'];funext t;simp[dm];by_cases h:t=e
     .subst h;simp;exact S.symm
     .simp[h]
    have dn:=by
     have:=p.rel.set (v:=v2) (x:=.undef) sT (.cz (.undef _));rwa [eC]at this
    refine ih (rem:=rem) (ph:=1) (wv:=wv) az6 az6 aAW jI (λj g=> ?_) m (zZ _ eZ y) ⟨dn,p.eT,aAe⟩ f J (λ_=>H az6) (λh=>az6) (by rw[Ap aB];omega) (by rw[Ap aJ];omega) (by rw[RF KM];omega) (λ_=>by rw[rr sT,aCT rfl]) S F;rw[jh _ eZ];by_cases C:j=k+1
    .subst C;simp only[if_true,aFb,aFv,not_or];exact⟨λh=>by have:=m _ h;omega,λh=>az6,λh=>az6⟩
    .simp only[C,aCW];rw[l j g];simp[C]
   ·
    have ar:ph=1:=by
     rcases aDo ph 1 with h|h
     .exfalso;have:=x2 iT ops.size _ _ B (y _ B) aM;have V:=(l _ eZ).2 (.inr (.inl ⟨rfl,h⟩));rw[aDz,aDh (show k+1<listed.size by omega)]at this V;simp at this V;rw[this]at V;simp at V
     .omega
    subst ar;obtain⟨aj,aC⟩:=H az6;refine J7 ru mY (FF a w (R rfl) N aC) ?_;rw[FT,<-aj];refine ih (rem:=rem) (ph:=2) (wv:=wv) az6 az6 aAW jI (λj g=> ?_) m (zZ _ ho y) p f J (λh=>az6) (λ_=>rfl) Y xR N (λh=>az6) S F;rw[jh _ ho];by_cases C:j=k+2
    .subst C;simp only[if_true,aFb,aFv,not_or];exact⟨λh=>by have:=m _ h;omega,λh=>az6,λh=>az6⟩
    .simp only[C,aCW];rw[l j g];simp[C]
theorem akD{an:ey}{m:fh}{i:I}(h:jA P an m o=some i):oZ i=false:=by
 cases hi:oZ i with
 |false=>rfl
 |true=>
  unfold jA at h;split at h;all_goals
   (repeat' (first
    |(simp[aDt,aCL,aDr,aCz,reduceCtorEq]at h)
    |(obtain⟨_,_,h⟩:=h)
    |(done)
    |(exact h.elim)
    |(unfold zy at h)
    |(split at h)))
  all_goals grind[oZ]
theorem RM{an:ey}{r:Array Oper}:∀{k:Nat} {l:List Oper} {m:fh} {a:List cm},hV P an nt r m l=some a->(∀j,j<k->∀g,a[j]?=some g->oZ g.i=false)->(∀g,a[k]?=some g->oZ g.i=true)->k<a.length->
  ∃n b c d f e m' i,l[k]?=some n/\l[k+1]?=some b/\l[k+2]?=some c/\BQ P an n b c=some (d,f,e)/\d<nt/\e<nt/\a.drop k=⟨none,f⟩::⟨none,.me (some e)⟩::⟨none,.me none⟩::i/\hV P an nt r m' (l.drop (k+3))=some i
 |k,[],m,a,h,_,_,aE=>by
  grind[hV]
 |k,o::l,m,a,h,t,v,aE=>by
  rcases vS h with⟨g,i,h1,u,rfl⟩|⟨b,c,H,d,f,e,i,rfl,ai,A,he,u,rfl⟩
  .cases k with
   |zero=>
    have:=v g rfl;obtain⟨p,_⟩:=xT h1;rcases p with p|p
    all_goals grind[akD,oZ]
   |succ k=>
    obtain⟨n,b,c,d,f,e,m',x,R,J,K,B,C,E,Q,N⟩:=RM (k:=k) u (λj F q w=>t (j+1) az6 q az8) (λq w=>v q az8) az8;exact⟨n,b,c,d,f,e,m',x,az8,az8,az8,B,C,E,az8,az8⟩
  .cases k with
   |zero=>exact⟨o,b,c,d,f,e,m,i,rfl,rfl,rfl,ai,A,he,rfl,az8⟩
   |succ k=>
    obtain⟨s,z,L,y,S,G,rfl,M⟩:=vQ ai;have:=t 0 az6 _ rfl;grind[oZ]
theorem RN{an:ey}{c:Array Oper}:∀{l:List Oper} {m:fh} {b:List cm},hV P an nt c m l=some b->(∀o,o∈l->(∃t s f,o.op=.fieldAddr t (.tmp s) f)\/(∃t s x,o.op=.store t (.tmp s) x))->∀(i:Nat) (o:Oper),l[i]?=some o->
  ∃m' g,b[i]?=some g/\rq P an m' o g.i/\pS c o=some g.g/\kX nt o=true/\g.i.dst=o.dst
 |[],m,b,h,_,i,o,a=>az8
 |o::l,m,b,h,hp,i,w,a=>by
  rcases vS h with⟨g,q,h1,j,rfl⟩|⟨cO,H,C,d,ins,e,q,rfl,ai,F,he,j,rfl⟩
  .cases i with
   |zero=>
    simp at a;subst a;obtain⟨k,c2,n,p⟩:=xT h1;exact⟨m,g,rfl,k,c2,n,p⟩
   |succ i=>
    obtain⟨m',A,v,k2⟩:=RN j (λo a=>hp o (by simp[a])) i w (by simpa using a);exact⟨m',A,by simpa using v,k2⟩
  .obtain⟨s,z,J,y,M,B,rfl,r⟩:=vQ ai;obtain⟨t,u,E,G,L,x,N,K,_⟩:=r.ex;simp_all
def aF9:=@List.mem_range'_1
theorem akF{aR:Array Value}{e:Nat}:aR.setIfInBounds e (aR.getD e undef)=aR:=by
 apply Array.ext_getElem?;intro j;rw[aDz,aFl];grind
theorem akG(P:Program)(gl:Nat->List D):Rx P gl:=by
 intro n0 nt an aV c u ts k A w w0 G G0 ρ ρ0 lam a st K Q az fK o8 J nf cj qd p f hs uL aN;have e8:=F1 c.toList.length (aCw _) az;have ui:ts.length=c.size:=az9;have ad:=aEt.1 (show u.findIdx? (λg=>oZ g.i)=some k from o8);obtain⟨ov,aR,CL⟩:=ad;have R:k<c.size:=az9;obtain⟨cR,cO,eM,d,aU,e,m',gb,l1,l2,eO,ai,bk,he,ao,uG⟩:=RM (k:=k) az (λj m g aF=>az9) (λg aF=>by
   simp_all) ov
 obtain⟨s,z,i0,y,sz,b',rfl,jg⟩:=vQ ai;have zR:c[k]?=some cR:=az8;have lU:c[k+1]?=some cO:=az8;have ru:c[k+2]?=some eM:=az8;have ho:=(aC'.1 ru).1;have KO:∀j,u[k+j]?=(u.drop k)[j]?:=λj=>az7;have rD:u[k]?=some ⟨none,.ln d s z i0 y sz b'⟩:=by have:=KO 0;simp_all
 have mX:u[k+1]?=some ⟨none,.me (some e)⟩:=az8;have jY:u[k+2]?=some ⟨none,.me none⟩:=by have:=KO 2;simp_all
 unfold EO at J;rw[rD]at J;rw[mX]at J;simp only[aCx,aCQ,aDw,aDY]at J;obtain⟨⟨⟨t1,t2⟩,t3⟩,t4⟩:=J;have qe:∀j,k+3<=j->∀o g,c[j]?=some o->u[j]?=some g->EN e (e::d::s::z::i0::y.slots) o g=true:=by
  intro j m o g bg aF;rcases t4 j (aC'.1 bg).1 with h|h
  .grind[Nat.blt_eq]
  simp_all
 have H:∀i,i<c.size->u[i]?=some (ts.getD i ⟨0,default,{}⟩).g:=by
  intro i hi;rw[<-fK,aDC,uM az6];rfl
 have x5:∀o g,EN e (e::d::s::z::i0::y.slots) o g=true->o.guard=none/\e∉g.rd/\(∀q,o.dst=some q->q∉e::d::s::z::i0::y.slots)/\((∃t s f,o.op=.fieldAddr t (.tmp s) f)\/(∃t s x,o.op=.store t (.tmp s) x)):=by
  intro o g h;unfold EN at h;simp at h;obtain⟨⟨⟨F,r⟩,B⟩,C⟩:=h;have ar:∀{i:Nat} {l:List Nat},du i l=false->i∉l:=λh hm=>by rw[p4.2 hm]at h;grind
  refine⟨F,ar r,λq n=> ?_,?_⟩
  .simp_all
  .split at C
   .rename_i t s f bE;exact .inl ⟨t,s,f,bE⟩
   .rename_i t s x bE;exact .inr ⟨t,s,x,bE⟩
   .simp at C
 have eZ:c.size-k=(c.size-(k+1))+1:=az6;rw[eZ];have V:∀i,i<c.size->(A.getD i true=false↔k<=i):=by
  intro i hi;have:=qd i hi;cases L:A.getD i true with
  |true=>simp;have:=this.1 L;omega
  |false=>
   simp;rcases aDo i k with h|h
   .rw[this.2 h]at L;simp at L
   .exact h
 have iT:∀(j:Nat) (o:Oper),c[j]?=some o->A.getD j true=true->∀e∈o.after.toList,Region.binds .any e=true->A.getD e.on false=true:=by
  intro j o U L q n Y;have m:j<c.size:=(aC'.1 U).1;have wb:=(qd j m).1 L;unfold vF at nf;have C:=aCQ.1 nf j (aDw.2 m);rw[U]at C;simp only[aCQ,aDY,aCX]at C;have bN:q.on<j:=by
   rcases C q n with h|h
   .rw[Y]at h;simp at h
   .simpa [aFr]using h
  have cT:=(qd q.on az6).2 az6;rw[aDz,aDh (show q.on<A.size by omega)]at cT⊢;exact cT
 refine⟨λud=>absurd ud (RE nf cj ⟨k,R,(V k R).2 (aCw _)⟩),λi hi=> ?_⟩;obtain⟨⟨Z,rG⟩,iR⟩:=(KL i).1 hi;have Am:i=k:=by
  have F:=(V i Z).1 rG;rcases aDo k i with h|h
  .exfalso;rcases t2 i Z with r|r
   .have:=aCM r;omega
   .have:=x2 iT c.size i _ (aDh Z) (iR _ (aDh Z)) r;have B:=(V k R).2 (aCw _);rw[aDz,aDh (show k<A.size by omega)]at this B;simp at this B;rw[this]at B;simp at B
  .omega
 subst Am;have Aq:ts.drop i=ts.getD i ⟨0,default,{}⟩::ts.getD (i+1) ⟨0,default,{}⟩::ts.getD (i+2) ⟨0,default,{}⟩::ts.drop (i+3):=by
  have step:∀j,j<c.size->ts.drop j=ts.getD j ⟨0,default,{}⟩::ts.drop (j+1):=λj m=>by
   rw[aEK az6,aC4,aCB az6];rfl
  rw[step i R,step (i+1) az6,step (i+2) ho]
 rw[Aq]at hs;obtain⟨s1,fw,s2,eY,kK,fa,k3⟩:=hs;have g0:(ts.getD i ⟨0,default,{}⟩).g=⟨none,.ln d s z i0 y sz b'⟩:=by have:=H i R;rw[rD]at this;simpa using this.symm
 have g1:(ts.getD (i+1) ⟨0,default,{}⟩).g=⟨none,.me (some e)⟩:=by have:=H (i+1) az6;rw[mX]at this;simpa using this.symm
 have g2:(ts.getD (i+2) ⟨0,default,{}⟩).g=⟨none,.me none⟩:=by have:=H (i+2) ho;rw[jY]at this;simpa using this.symm
 have b7:step (bA P gl) gl (.ln d s z i0 y sz b') st (λq=>q=s1):=by have:=fw.mono (K:=λq=>q=s1) rfl;rw[g0]at this;exact this
 have cq:s1.dQ (some e) .undef=s2:=by have:=eY.mono (K:=λq=>q=s2) rfl;rw[g1]at this;exact this
 have dG:s2.dQ none .undef=kK:=by have:=fa.mono (K:=λq=>q=kK) rfl;rw[g2]at this;exact this
 obtain⟨v1,v2,w1,b,pos,us,xo,bZ,G',aQ,c1,E,fz,nh,bP,cp,cy,kG,pc,uz,x6,Ar,CM,F'⟩:=FE p jg b7;obtain⟨n4,hy,jG,sS⟩:=FJ jg nh;obtain⟨t,a',bT,bt,sR,x,KP,q1,bG,cM,dB,gE,jW,pb,p7,rm,_,_,_,_,_,RO,_⟩:=jg.ex;have aB:xo=x:=by
  rw[pb]at nh;have:x=xo:=by simpa [Op.operands]using nh
  exact this.symm
 have iU:d<a.tmps.size:=aC2 bk p.sz;have sT:e<a.tmps.size:=aC2 he p.sz;have aJ:∀S,xo=.tmp S->S∈y.slots:=by
  intro S n;rw[aB]at n;subst n;simp[bW,aCz]at RO;rw[<-RO];simp[O.slots]
 refine Cx zR cM bP ?_;rw[bG];have F:=x6.set iU CM;have dn:b2 gl (w1.setCells b pos us) G' ρ lam (a.put (some d) v1).tmps kK:=by
  have r:=F.set (d:=e) (v:=(a.tmps.setIfInBounds d v1).getD e undef) (x:=.undef) (by simpa using sT) (.cz (.undef _));rw[akF]at r;rw[<-dG,<-cq,<-F'];exact r
 have aM:(List.range' (i+3) (c.size-(i+3))).map (λi=>ts.getD i ⟨0,default,{}⟩)=ts.drop (i+3):=by
  apply aEm;intro j;rw[aDC,aDP];by_cases m:j<c.size-(i+3)
  .rw[List.getElem?_range' m,aDD,Nat.one_mul,uM az6]
  .rw[aE7 (by simpa using m),aE7 az6];rfl
 have jh:∀j d,(A.setIfInBounds i true).getD j d=if j=i then true else A.getD j d:=by
  intro j d;rw[aDz,aDz,aFl];by_cases h:i=j
  .subst h;simp[show i<A.size by omega]
  .have dM:j≠i:=λe=>h e.symm;simp[h,dM]
 refine akt (ts:=ts) (an:=an) (k:=i) (d:=d) (e:=e) (i0:=i0) (b:=b) (pos:=pos) (xo:=xo) (v1:=v1) (v2:=v2) (vi:=a.tmps.getD i0 undef) (vx:=a.eval xo) (us:=us) (c1:=c1) (E:=E) (fz:=fz) nf lU jW gE ru rm p7 he cp cy (aCP jG) (aCP sS)
  (λq n=>aCP (n4 q n).1) t3 ?_ (λj jB F r B=>uL j jB F r B) aN (c.size-(i+1)) (rem:=List.range' (i+3) (c.size-(i+3))) (ph:=0) (wv:=w1.setCells b pos us)
  (by simp;omega) az6 aAW List.pairwise_lt_range' (λj m=> ?_) (λj m=> ?_) ?_ ⟨dn,p.eT.good Ar,aAe⟩ ⟨f.good.trans Ar,f.pre⟩ ⟨_,aQ,uz,az7,az7⟩ (λ_=>⟨rfl,kG⟩) (λh=>az6)
  (by rw[rr iU,aCT rfl]) (Ap (aCP hy)) (eval_put λq n=>(n4 q n).2) (λh=>az6) ?_ (by rw[aM];exact k3)
 .intro j m mo o bg;have N:=x5 o _ (qe j m o _ bg (H j mo));obtain⟨m2,g,b5,eG,jw,ni,wc⟩:=RN uG (λo' pZ=>by
   obtain⟨q,n⟩:=List.getElem?_of_mem pZ;rw[aDP]at n;have W:c[i+3+q]?=some o':=by simpa using n
   have um:=(aC'.1 W).1;exact(x5 o' _ (qe _ az6 o' _ W (H _ um))).2.2.2) (j-(i+3)) o (by rw[aDP,show i+3+(j-(i+3))=j by omega];simpa using bg)
  have aP:gb[j-(i+3)]?=u[j]?:=by
   have:=KO (j-i);rw[show i+(j-i)=j by omega,ao,show j-i=(j-(i+3))+1+1+1 by omega]at this;simpa using this.symm
  rw[aP,H j mo]at b5;simp[aCz]at b5;subst b5;refine⟨m2,_,uM az6,eG,?_,N.1,ni,wc,N.2.2.2,λq n=> ?_,N.2.1⟩
  .unfold pS at jw;rw[N.1]at jw;simpa using jw.symm
  .have M:=N.2.2.1 q n;simp[aCJ,not_or]at M;exact⟨aCP M.2.1,aCP M.2.2.2.2.1,aCP M.1,λS W h=>M.2.2.2.2.2 (by rw[h];exact aJ S W)⟩
 .rw[jh];by_cases oA:j=i
  .subst oA;simp only[if_true,aFb,aFv,not_or,aF9];exact⟨λh=>az6,λh=>az6,λh=>az6⟩
  .simp only[oA,aCW,V j m,aF9];omega
 .rw[aF9]at m;omega
 .intro j o U rF q n Y;rw[jh]at rF⊢;by_cases m:j=i
  .subst m;rw[iR o U q n Y];simp
  .simp only[m,aCW]at rF;rw[iT j o U rF q n Y];simp
 .rw[<-dG,<-cq];simp[ag.dQ,ag.set,iO]
theorem akO(P:Program)(gl:Nat->List D):xU P gl:=akj P gl (akG P gl)
def aEu:=@Go.wpIn_mono
theorem akP{an:ey}{m:fh}{i:I}(h:jA P an m o=some i):∀c,o.op≠.defer c:=by
 intro c a;simp_all[jA]
theorem RP{l n:Nat}{next:Act->World->Prop}(i:∀c,o.op≠.defer c)(h:o.wp P a w next Q):o.wpIn (Fence.wide.inRound l) n P a w next Q:=by
 refine⟨λ_ _=>trivial,?_⟩;rw[Oper.semAt_eq _ _ _ i];unfold Oper.wp at h;generalize (execOp a.eval o).run P w=r at h;cases r with
 |ok m w'=>
  cases m with
  |value v=>exact h
  |skip=>exact h
  |defer d=>exact h
  |enter f args=>exact⟨λh=>by grind[Fence.wide,Fence.inRound],CallsIn.inRound l (callsIn_wide.2 h)⟩
  |row r args=>
   refine⟨λh=>by grind[Fence.wide,Fence.inRound],?_⟩;intro c j _;obtain⟨v,g,k,b⟩:=h c j;exact⟨v,g,k,stepsIn_wide.2 b⟩
  |_=>exact h.elim
 |halt e w'=>cases e<;>first|exact h|exact h.elim
theorem KQ{b n k:Nat}{ops:Array Oper}{rest:List Nat}(e:ops[k]?=some o)(d:o.guard=none)(f:∀c,o.op≠.defer c)(h:o.wp P a w (λa' w'=>wpOpsIn (Fence.wide.inRound b) n P ops Q rest a' w') Q):
  wpOpsIn (Fence.wide.inRound b) n P ops Q (k::rest) a w:=by
 simp_all[wpOpsIn,Region.wanted,RP]
theorem KR{u n:Nat}{ops:Array Oper}{an:ey}:∀(fuel:Nat) {l:List Oper} {k:Nat} {m:fh} {s:List cm} {w:World} {G:bL} {ρ:List Nat} {lam:Nat->Option Nat} {a:Act} {st:ag},l.length<=fuel->
  (∀j,ops[k+j]?=l[j]?)->hV P an nt ops m l=some s->b6 n0 gl nt w G ρ lam a st->ji w0 G0 ρ0 w G ρ->steps (bA P gl) gl s st K->
  (∀a' w',cP n0 gl nt w0 G0 ρ0 K a' w'->Q .normal a' w')->wpOpsIn (Fence.wide.inRound u) n P ops Q (List.range' k l.length) a w
 |_,[],k,m,s,w,G,ρ,lam,a,st,_,_,h,p,f,c,t=>by
  simp[hV,aCz]at h;subst h;exact t _ _ (f.after (p.after c))
 |0,o::l,k,m,s,w,G,ρ,lam,a,st,z8,_,_,_,_,_,_=>az8
 |fuel+1,o::l,k,m,s,w,G,ρ,lam,a,st,z8,aE,h,p,f,c,t=>by
  have C:ops[k]?=some o:=by have:=aE 0;simp_all
  rcases vS h with⟨g,z,h1,x,rfl⟩|⟨cO,eM,S,d,ins,e,z,rfl,ai,W,he,x,rfl⟩
  .obtain⟨r,c2,y,E⟩:=xT h1;obtain⟨ar,i⟩:=g;rw[aCU,aDH];simp[wpOpsIn,C];have next:∀a' w',cP n0 gl nt w G ρ (λst=>steps (bA P gl) gl z st K) a' w'->wpOpsIn (Fence.wide.inRound u) n P ops Q (List.range' (k+1) l.length) a' w':=by
    rintro a' w' ⟨M,G',ρ',lam',aU,N,aX,V,Y,dR⟩;refine KR fuel (l:=l) (k:=k+1) (m:=vE P m o) az8 (λj=> ?_) x ⟨aX,N,M⟩ ⟨f.good.trans V,λi b ad=>Y i b (f.pre i b ad)⟩ dR t;have:=aE (j+1);grind
   have L:step (bA P gl) gl i st (λst=>steps (bA P gl) gl z st K)->o.wpIn (Fence.wide.inRound u) n P a w (λa' w'=>wpOpsIn (Fence.wide.inRound u) n P ops Q (List.range' (k+1) l.length) a' w') Q:=by
    intro c;rcases r with r|rfl
    .exact RP (akP r) (Oper.wp_mono next (JV p r y c))
    .exact c.elim
   rcases J5 c2 p.rel.aR with⟨rfl,hw⟩|⟨ao,want,rfl,⟨b,au,hw⟩|⟨au,hw⟩|⟨g1,g2⟩⟩
   .rw[hw];simp;exact L c
   .rw[hw];simp only[steps,au]at c;cases h:cond want b (!b)with
    |true=>simp_all
    |false=>rw[h]at c;simp;exact⟨λ_ _=>trivial,next _ _ (Cv p E.symm y c)⟩
   .rw[hw];simp[steps,au]at c;simp;exact⟨λ_ _=>trivial,next _ _ (Cv p E.symm y c)⟩
   .exfalso;simp[steps]at c;first
     |exact c
     |(split at c
       .rename_i b au;exact g1 b au
       .rename_i au;exact g2 au
       .exact c)
  .obtain⟨ao,aP,i,aM,sz,b',rfl,B⟩:=vQ ai;have lU:ops[k+1]?=some cO:=az8;have ru:ops[k+2]?=some eM:=az8;have gu:=c;obtain⟨v1,v2,w1,b,ay,us,xo,bZ,G',n',r,aq,fz,r0,R,cq,dG,rv,Aa,jj,mu,H,uB,J⟩:=FE p B gu;obtain⟨F,hy,jG,sS⟩:=FJ B r0;obtain⟨aB,aI,bT,bt,sR,aJ,t3,q1,U,Z,dB,gE,jW,pb,p7,rm,_⟩:=B.ex;have A:=aC2 W p.sz;have sT:=aC2 he p.sz;rw[aCU,aCU,aCU,aDH,aDH,aDH];refine KQ C Z az8 (gg R ?_);rw[U];refine KQ lU jW az8 (gg (cq _ _ ?_ ?_) ?_)
   .rw[rr A,aCT rfl]
   .rw[rr A,aCV (aCP hy)]
   rw[gE];refine KQ ru rm az8 (vH (dG _ _ ?_ ?_ rv) ?_)
   .rw[rr aA5,aCT rfl]
   .rw[eval_put (λq v=>(F q v).1),eval_put (λq v=>(F q v).2)]
   rw[p7];have dn:=J8 (v2:=v2) mu uB A sT;refine KR fuel (l:=S) (k:=k+1+1+1) (m:=m) az9 (λj=> ?_) x ⟨dn,p.eT.good H,aBH⟩ ⟨f.good.trans H,f.pre⟩ J t;have:=aE (j+3);grind
theorem akR{c n:Nat}{K:aD->ag->Prop}{b:eL}{y:Code}(f:∀{w:World} {G:bL} {ρ:List Nat} {lam:Nat->Option Nat} {a:Act} {st:ag},b6 n0 gl nt w G ρ lam a st->ji w0 G0 ρ0 w G ρ->
   run (bA P gl) gl b st K->y.wpIn (Fence.wide.inRound c) n P (kH n0 gl nt w0 G0 ρ0 K) a w) {e:Exit} {a':Act} {w':World}
  (h:kH n0 gl nt w0 G0 ρ0 (λx st=>match x with|.normal=>run (bA P gl) gl b st K|x=>K x st) e a' w'):
  Exit.then (y.wpIn (Fence.wide.inRound c) n P (kH n0 gl nt w0 G0 ρ0 K)) (kH n0 gl nt w0 G0 ρ0 K) e a' w':=by
 cases e with
 |normal=>
  obtain⟨d,G',ρ',lam',aU,g,aX,j,k,l⟩:=h;exact f ⟨aX,g,d⟩ ⟨j,k⟩ l
 |exit i=>exact h
 |ret=>exact h
 |_=>exact h.elim
theorem RQ{V n:Nat}{an:ey}{m:fh}:∀(c:Code) {l s:List (List Nat×List Nat)} {r:eL} {w0 w:World} {G0 G:bL} {ρ0 ρ:List Nat} {lam:Nat->Option Nat} {a:Act} {st:ag} {K:aD->ag->Prop},
  dv P an nt m c l=some (r,s)->kY r=true->b6 n0 gl nt w G ρ lam a st->ji w0 G0 ρ0 w G ρ->run (bA P gl) gl r st K->c.wpIn (Fence.wide.inRound V) n P (kH n0 gl nt w0 G0 ρ0 K) a w:=by
 intro c;induction c with
 |skip=>
  intro l s r w0 w G0 G ρ0 ρ lam a st K d o p f k;obtain⟨rfl,rfl⟩:=d;exact wpIn_skip (f.after (p.after k))
 |region id ops Q=>
  intro l s r w0 w G0 G ρ0 ρ lam a st K d o p f k;simp[dv]at d;split at d
  .rename_i is S;cases Q with
   |true=>
    simp at d;split at d
    .grind[kY]
    .split at d
     .grind[J',Ad,kY]
     .obtain⟨rfl,rfl⟩:=d;exact k.elim
   |false=>
    obtain⟨rfl,rfl⟩:=d;refine wpIn_region ?_;have:List.range ops.size=List.range' 0 ops.toList.length:=aBI;rw[this];exact KR _ (aCw _) (λj=>az7) S p f k λY w' h=>h
  simp_all
 |seq x y A B=>
  intro l s r w0 w G0 G ρ0 ρ lam a st K d o p f k;simp[dv]at d;split at d
  .rename_i W M ai;split at d
   .rename_i N U v;obtain⟨rfl,rfl⟩:=d;simp[kY,aCx]at o;refine wpIn_seq (aEu (A ai o.1 p f k) λe a w h=> ?_);exact akR (λp f k=>B v o.2 p f k) h
   simp_all
  simp_all
 |cond c x y A B=>
  intro l s r w0 w G0 G ρ0 ρ lam a st K d o p f k;simp[dv]at d;split at d
  .rename_i W co M R ai;split at d
   .rename_i N U v;obtain⟨rfl,rfl⟩:=d;simp[kY,aCx]at o;simp[run]at k;obtain⟨L,z⟩:=dY R p.rel;split at k
    .rename_i t aK;rw[aK]at z;cases t with
     |true=>exact wpIn_cond_true z.bool (A ai o.1 p f k)
     |false=>exact wpIn_cond_false z.bool (B v o.2 p f k)
    .exact k.elim
   simp_all
  simp_all
 |block i b ih=>
  intro l s r w0 w G0 G ρ0 ρ lam a st K d o p f k;simp[dv]at d;split at d
  .rename_i Z M au;obtain⟨rfl,rfl⟩:=d;refine wpIn_block (aEu (ih au o p f k) λe a w h=> ?_);cases e with
   |normal=>exact h
   |ret=>exact h
   |exit j=>
    obtain⟨C,G',ρ',lam',aU,F,aX,H,J,u⟩:=h;simp[Exit.inBlock];by_cases E:j=i
    .subst E;simp at u;simp;exact⟨C,G',ρ',lam',aU,F,aX,H,J,u⟩
    .have:Nat.beq j i=false:=by simp_all[aDS]
     simp[this,cond]at u;simp[E,aCW];exact⟨C,G',ρ',lam',aU,F,aX,H,J,u⟩
   |_=>exact h.elim
  simp_all
 |loop b ih=>
  intro l s r w0 w G0 G ρ0 ρ lam a st K d o p f k;cases l with
  |nil=>grind[dv]
  |cons q l=>
   grind[dv,kY]
 |exit i=>
  intro l s r w0 w G0 G ρ0 ρ lam a st K d o p f k;simp[dv,aCz,aC6]at d;obtain⟨rfl,rfl⟩:=d;exact wpIn_exit (f.after (p.after k))
 |ret=>
  intro l s r w0 w G0 G ρ0 ρ lam a st K d o p f k;simp[dv,aCz,aC6]at d;obtain⟨rfl,rfl⟩:=d;exact wpIn_ret (f.after (p.after k))
 |rangeFunc g ps x y _ _=>
  intro l s r w0 w G0 G ρ0 ρ lam a st K d o p f k;simp[dv]at d;split at d
  .simp at d;grind[kY]
  simp_all
 |scope _=>grind[dv]
 |label _=>grind[dv]
 |goto _=>grind[dv]
 |refuse _=>
  intro l s r w0 w G0 G ρ0 ρ lam a st K d o p f k;simp[dv,aCz,aC6]at d;obtain⟨rfl,rfl⟩:=d;exact k.elim
def aFc:=@Go.RowKit.Below.heap_alloc
theorem RR{L:Loc}{v:Value}{x:ah}(h:dq w G ρ lam L v x):c7 w G ρ v (lP x):=by
 rcases h.cases with h|⟨t,off,b,rfl,_,_⟩
 .rcases h.cases with h|⟨sz,l,rfl,e⟩|⟨sz,m,us,rfl,e⟩
  .cases h with
   |nil a sz=>exact .d _ _ (.kZ _ _ _)
   |undef v=>exact .undef v
   |d v x c=>exact .d v x c
   |ptr _ _ _ c=>exact .ptr _ _ _ c
   |map _ _ c=>exact .map _ _ c
   |aP _ _ _ _ _ _ _ c g aM=>exact .aP _ _ _ _ _ _ _ c g aM
   |func _ _ _ _ _ h1 f=>exact .func _ _ _ _ _ h1 f
   |agg _ _ c=>exact .agg _ _ c
   |tuple _ _ c=>exact .tuple _ _ c
   |f' _ _ c=>exact .f' _ _ c
  .cases l<;>exact .d _ _ e.rd
  .exact .undef _
 .exact .undef _
theorem axI{L:Loc}{v:Value}{x:ah}{sz:Nat}{l:List D}(h:dp w G ρ L v x)(b:hJ x=some (sz,l)):Rd w G v (.list sz l)/\v.oneCell'=true:=by
 have i:∀{v:Value} {sz:Nat} {l:List D},Rd w G v (.list sz l)->v.oneCell'=true:=by
  intro v sz l h;cases h<;>rfl
 cases x with
 |d y=>
  cases y<;>simp[hJ,aCz,aC6,reduceCtorEq]at b;obtain⟨rfl,rfl⟩:=b;have c:=h;cases c with
  |d _ _ h=>grind
 |own f e=>
  simp[hJ,aCz,aC6]at b;obtain⟨rfl,rfl⟩:=b;cases e with
  |nil=>
   have c:=h;cases c with
   |nil a _=>exact⟨.kZ _ _ _,rfl⟩
  |cons d e=>
   have c:mh w G L v _ (d::e):=h;grind[mh.rd]
 |gH f=>
  simp[hJ,aCz,aC6]at b;obtain⟨rfl,rfl⟩:=b;have c:Rd w G v (.list f []):=by
   rcases(show mh w G L v f []\/∃g,v=.slice g 0 0 from h)with h|⟨g,rfl⟩
   .exact h.rd
   .exact .kZ _ _ _
  grind
 |_=>grind[hJ]
theorem KT(o:Obj):de w G (w.alloc o) G:=by
 refine⟨λb j v h=> ?_,λb i h=> ?_,λb n h=> ?_⟩
 .refine⟨?_,h.2⟩;have e:b<w.heap.size:=by
   have:=h.1;grind[World.cell?]
  rw[aE9 (aFc w o b e)];exact h.1
 .obtain⟨g,d,a⟩:=h;exact⟨g,d,(aFc w o b (aC'.1 a).1).trans a⟩
 .obtain⟨c,E,f,a,d⟩:=h;exact⟨c,E,f,(aFc w o b (aC'.1 a).1).trans a,d⟩
theorem RS(o:Obj)(c:∀b L n,G b=some (L,n)->b<w.heap.size)(L:Loc):e5 L L w G (w.alloc o) G:=
 λb _ a=>⟨aFc w o b (c _ _ _ a),a⟩
theorem RT(o:Obj)(a:∀b L n,G b=some (L,n)->b<w.heap.size):Good w G (w.alloc o) G where
 size:=az7
 iN b au _:=⟨aFc w o b au,rfl⟩
 new b n au c:=absurd (a _ _ _ c) (aDT.2 au)
 old _ _ _ h:=h
 keep:=KT o
 os:=rfl
 out:=rfl
structure Still(w0:World)(G0:bL)(ρ0:List Nat)(a:Act)(jx:Nat->ah)(r:Loop)(W:World)(G:bL)(ρ:List Nat):Prop where
 aR:∀t,c7 W G ρ0 (a.tmps.getD t undef) (jx t)
 mr:ji w0 G0 ρ0 W G ρ
 k8:W.heap[w0.heap.size+1]?=some (.loop r)
 x7:G (w0.heap.size+1)=none
 rH:W.heap[w0.heap.size]?=some (.deferred (some []))
 Au:G w0.heap.size=none
structure qf(gl:Nat->List D)(W:World)(G:bL)(ρ:List Nat)(s:aY):Prop where
 ob:gK W G ρ s
 eU:pU gl W G
 lt:∀b L n,G b=some (L,n)->b<W.heap.size
theorem Still.rel{d:Nat->ah}{r:Loop}{W:World}{s:aY}(h:Still w0 G0 ρ0 a d r W G ρ)(c:qf gl W G ρ s):b2 gl W G ρ (λ_=>none) a.tmps ⟨d,λ_=>none,s⟩ where
 aR t:=.cz ((h.aR t).keep (de.refl _ _) λi b=>h.mr.pre i (b+1))
 bM t cs e:=az8
 nb _ _:=rfl
 ob:=c.ob
 eU:=c.eU
 lt:=c.lt
theorem Still.put{c:Nat->ah}{r:Loop}{W:World}(h:Still w0 G0 ρ0 a c r W G ρ)(b:Loop):Still w0 G0 ρ0 a c b (W.putObj (w0.heap.size+1) (.loop b)) G ρ:=by
 have d:=sU (G:=G) (o':=.loop b) h.k8 rfl;exact⟨λt=>(h.aR t).keep d λ_ _ h=>h,⟨h.mr.good.putObj h.k8 rfl az6,h.mr.pre⟩,World.putObj_heap_same (aC'.1 h.k8).1,h.x7,(aEP az6).trans h.rH,h.Au⟩
theorem Still.RU{i:Nat->ah}{r:Loop}{W:World}{s:aY}(h:Still w0 G0 ρ0 a i r W G ρ)(d:qf gl W G ρ s)(c:Loop):qf gl (W.putObj (w0.heap.size+1) (.loop c)) G ρ s:=by
 have f:=sU (G:=G) (o':=.loop c) h.k8 rfl;have e:=λL=>Ae (w:=W) (o':=.loop c) h.x7 L;exact⟨d.ob.b0 f (λ_=>e _) (λ_ _=>e _),d.eU.b0 f,λb L n g=>by rw[World.putObj_size];exact d.lt b L n g⟩
theorem Still.run{g:Nat->ah}{r:Loop}{W e:World}{G':bL}{ρ':List Nat}(h:Still w0 G0 ρ0 a g r W G ρ)(c:Good W G e G')(j:∀i b:Nat,ρ0[i]?=some b->ρ'[i]?=some b):
  Still w0 G0 ρ0 a g r e G' ρ':=by
 have f:=c.iN _ (aC'.1 h.k8).1 (.inl h.x7);have d:=c.iN _ (aC'.1 h.rH).1 (.inl h.Au);exact⟨λt=>(h.aR t).keep c.keep λ_ _ h=>h,⟨h.mr.good.trans c,j⟩,f.1.trans h.k8,f.2.trans h.x7,d.1.trans h.rH,d.2.trans h.Au⟩
theorem b2.wd{tmps:Array Value}(h:b2 gl w G ρ lam tmps st):qf gl w G ρ st.s:=⟨h.ob,h.eU,h.lt⟩
end
section
variable {P:Program}{gl:Nat->List D}{n0 nt:Nat}{a:Act}{w w' w0:World}{G G' G0:bL}{ρ ρ' ρ0:List Nat}{lam lam':Nat->Option Nat}{st aU:ag}{o:Oper}{Q:Exit->Act->World->Prop}
def x8:Code->Option aD
 |.ret=>some .ret
 |.exit i=>some (.exit i)
 |_=>none
def nW(tmps:Array Value):List Nat->List Value->Array Value
 |p::a,v::vs=>nW (tmps.setIfInBounds p v) a vs
 |_,_=>tmps
theorem RV:∀(ps:List Nat) (vs:List Value) (tmps:Array Value),(nW tmps ps vs).size=tmps.size
 |[],_,_=>by simp[nW]
 |_::_,[],_=>by simp[nW]
 |p::ps,v::vs,tmps=>by simp[nW,RV ps vs]
theorem akS(ps:List Nat)(vs:List Value)(tmps:Array Value):
  (((⟨ps⟩:Array Nat).zip (⟨vs⟩:Array Value)).foldl (λtmps (x:Nat×Value)=>match x with|(t,a)=>tmps.setIfInBounds t a) tmps)=nW tmps ps vs:=by
 have e:((⟨ps⟩:Array Nat).zip (⟨vs⟩:Array Value))=⟨ps.zip vs⟩:=az7;simp;induction ps generalizing vs tmps with
 |nil=>simp[nW]
 |cons p ps ih=>
  cases vs with
  |nil=>simp[nW]
  |cons v vs=>simp[aFY,aF2,nW];simp_all
theorem RW{gl:Nat->List D}{W:World}{G:bL}{ρ:List Nat}:∀{ps:List Nat} {vs:List Value} {xs:List ah} {tmps:Array Value} {st0:ag},b2 gl W G ρ (λ_=>none) tmps st0->(∀p,p∈ps->p<tmps.size)->
  cu W G ρ vs xs->b2 gl W G ρ (λ_=>none) (nW tmps ps vs) {st0 with aR:=zw st0.aR ps xs}
 |[],vs,xs,tmps,st0,h,_,_=>by simp_all[nW,zw]
 |p::ps,vs,xs,tmps,st0,h,hp,a=>by
  cases a with
  |nil=>simpa [nW,zw]using h
  |cons v x vs xs h1 c=>
   exact RW (st0:=st0.set p x) (h.set (hp p az7) (.cz h1)) (λq b=>by simpa using hp q (by simp[b])) c
theorem akT{an:ey}{m:fh}{x y:Code}{l1 l2 eO wh:List (List Nat×List Nat)}{kv kx:eL}(bn:dv P an nt m x l1=some (kv,l2))(au:dv P an nt m y eO=some (kx,wh))(rI:kY kv=true)(x9:kY kx=true)
  {E:Nat->ah} {r:Loop} (eC:r.state=.ready) (ai:r.pending=none) {W:World} {s:aY} (h:Still w0 G0 ρ0 a E r W G ρ) (hw:qf gl W G ρ s) {ps:List Nat} {vs:List Value} {xs:List ah}
  (gM:∀p,p∈ps->p<a.tmps.size) (cj:nt<=a.tmps.size) (x':cu W G ρ vs xs) {iM:Option aD->aY->Prop} {f n:Nat}
  (V:sh (bA P gl) (run (bA P gl) gl kv) (run (bA P gl) gl kx) ps ⟨E,λ_=>none,s⟩ xs s iM):
  RoundIn Fence.wide n P (w0.heap.size+1) f (nW a.tmps ps vs) x y W λe d=>
   ∃c G' ρ' s',e=.returned (.bool (c:Option Code).isNone)/\(∀j,c=some j->(x8 j).isSome=true)/\Still w0 G0 ρ0 a E {r with state:=if c.isNone then .ready else .done,pending:=c} d G' ρ'/\qf gl d G' ρ' s'/\
    de W G d G'/\(∀b,b≠w0.heap.size+1->b<W.heap.size->G b=none->d.heap[b]?=W.heap[b]?/\G' b=none)/\(∀i b:Nat,ρ[i]?=some b->ρ'[i]?=some b)/\iM (c.bind x8) s':=by
 have dn:=RW (h.rel hw) gM x';have p:b6 0 gl nt W G ρ (λ_=>none) {tmps:=nW a.tmps ps vs,defers:=[]} {aR:=zw E ps xs,bM:=λ_=>none,s:=s}:=⟨dn,.nil,by grind[RV]⟩;refine roundIn_of_wpIn trivial ?_;obtain⟨_,V⟩:=V;refine aEu (RQ x bn rI p p.mr V) ?_;intro e bp hN o;cases e with
 |normal=>
  obtain⟨bG,gZ,lB,Kc,ad,q1,cM,dB,gE,jW⟩:=o;have u:=h.run dB (λi b C=>gE i b (h.mr.pre i b C));refine⟨_,run_beginRound u.k8 eC,?_⟩;have s2:=u.put {r with state:=.busy};have Z:de W G (hN.putObj (w0.heap.size+1) (.loop {r with state:=.busy})) gZ:=dB.keep.trans (sU u.k8 rfl);have d':b6 0 gl nt (hN.putObj (w0.heap.size+1) (.loop {r with state:=.busy})) gZ lB Kc bp ad:=by
   refine⟨cM.putObj u.k8 rfl u.x7,?_,bG⟩;obtain⟨hL,aj,aC,aX⟩:=q1;refine⟨hL,aj,aC,λD cD=> ?_⟩;obtain⟨g1,Z,g3⟩:=aX D cD;have cd:D≠w0.heap.size+1:=by intro e;subst e;rw[u.k8]at Z;simp_all
   grind[World.putObj_heap_other]
  refine aEu (RQ y au x9 d' d'.mr jW) ?_;have Y:∀(t:Option Code) {N:World} {g:bL} {k:List Nat} {H:Nat->Option Nat} {U:Act} {l:ag},b2 gl N g k H U.tmps l->Good (hN.putObj (w0.heap.size+1) (.loop {r with state:=.busy})) gZ N g->
    (∀i b:Nat,lB[i]?=some b->k[i]?=some b)->∃d,(Instr.endRound (w0.heap.size+1) t).run P N=.ok (.bool t.isNone) d/\
     Still w0 G0 ρ0 a E {r with state:=if t.isNone then .ready else .done,pending:=t} d g k/\qf gl d g k l.s/\de W G d g/\(∀b,b≠w0.heap.size+1->b<W.heap.size->G b=none->d.heap[b]?=W.heap[b]?/\g b=none)/\(∀i b:Nat,ρ[i]?=some b->k[i]?=some b):=by
   intro t N g k H U l S J q;have R:=s2.run J (λi b C=>q i b (gE i b (h.mr.pre i b C)));exact⟨_,run_endRound t R.k8,R.put _,R.RU S.wd _,(Z.trans J.keep).trans (sU R.k8 rfl),λb hj eh vK=>by
    grind[World.putObj_size,World.putObj_heap_other,Good.iN],λi b C=>q i b (gE i b C)⟩
  intro e U N o;cases e with
  |normal=>
   obtain⟨J,g,k,H,l,S,q,K,L,M⟩:=o;obtain⟨d,B,F,v,w,z,A⟩:=Y none q K L;exact⟨_,d,B,none,g,k,l.s,rfl,λj Q=>az9,F,v,w,z,A,M⟩
  |ret=>
   obtain⟨J,g,k,H,l,S,q,K,L,M⟩:=o;obtain⟨d,B,F,v,w,z,A⟩:=Y (some .ret) q K L;exact⟨_,d,B,some .ret,g,k,l.s,rfl,λj Q=>by cases Q;rfl,F,v,w,z,A,M⟩
  |exit i=>
   obtain⟨J,g,k,H,l,S,q,K,L,M⟩:=o;obtain⟨d,B,F,v,w,z,A⟩:=Y (some (.exit i)) q K L;exact⟨_,d,B,some (.exit i),g,k,l.s,rfl,λj Q=>by cases Q;rfl,F,v,w,z,A,M⟩
  |_=>exact o.elim
 |exit i=>obtain⟨_,_,_,_,_,_,_,_,_,h⟩:=o;exact h.elim
 |ret=>obtain⟨_,_,_,_,_,_,_,_,_,h⟩:=o;exact h.elim
 |_=>exact o.elim
end
end Go.aG
