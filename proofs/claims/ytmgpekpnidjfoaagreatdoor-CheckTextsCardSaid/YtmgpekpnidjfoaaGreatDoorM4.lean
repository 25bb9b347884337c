/- Part of texts_said. -/
import Derived.Test.YtmgpekpnidjfoaaGreatDoorM3
import Derived.RangeFuncCalls
set_option linter.defProp false
set_option maxRecDepth 100000
set_option maxHeartbeats 8000000
set_option linter.unusedSimpArgs false
set_option linter.unusedVariables false
namespace Go.aJ
variable {p:Prop}
def aAU:=@List.getElem?_eq_some_iff
def aB8:=@List.set_comm
def aA2:=@Bool.or_eq_true
theorem ayD(h:p:=by cases b<;>simp[kd]at h;rfl):p:=h
theorem ay2(h:p:=by cases b<;>simp[kd]at h;rw[h]):p:=h
inductive cJ where
 |c (i off:Nat) (v:ag)
 |o (i:Nat) (ob:b3)
 |n (ob:b3)
def cJ.app:cJ->aV->aV
 |.c i off v,s=>match s.getD i .dead with
  |.box cs=>s.set i (.box (cs.set off v))
  |_=>s
 |.o i ob,s=>s.set i ob
 |.n ob,s=>s++[ob]
def apps:List cJ->aV->aV
 |[],s=>s
 |u::ws,s=>apps ws (u.app s)
structure h' where
 rd:List (Nat×Nat×List ag):=[]
 ro:List (Nat×b3):=[]
 len:Option Nat:=none
 ws:List cJ:=[]
 k:List Nat:=[]
def IJ(s:aV)(q:Nat×Nat×List ag):Prop:=∃cs,s[q.1]?=some (.box cs)/\q.2.1+q.2.2.length<=cs.length/\(cs.drop q.2.1).take q.2.2.length=q.2.2
structure iO(E:h')(s:aV):Prop where
 rd:∀q,q∈E.rd->IJ s q
 ro:∀q,q∈E.ro->s[q.1]?=some q.2
 len:∀n,E.len=some n->s.length=n
def cJ.at(E:h'):cJ->Prop
 |.c i off _=>∃q,q∈E.rd/\q.1=i/\q.2.1<=off/\off<q.2.1+q.2.2.length
 |.o i _=>∃q,q∈E.ro/\q.1=i
 |.n _=>E.len≠none
def cJ.idx(s:aV):cJ->Prop
 |.c i _ _=>i<s.length
 |.o i _=>i<s.length
 |.n _=>True
theorem Em(u:cJ)(s:aV):s.length<=(u.app s).length:=by
 cases u with
 |c i off v=>grind[cJ.app]
 |o i ob=>simp[cJ.app]
 |n ob=>simp[cJ.app]
theorem En{u rQ:cJ}{s:aV}(h:u.idx s):u.idx (rQ.app s):=by
 have:=Em rQ s;cases u with
 |c i off v=>exact az' h this
 |o i ob=>exact az' h this
 |n ob=>trivial
theorem O6{E:h'}{u:cJ}{s:aV}(h:u.at E)(ah:iO E s):u.idx s:=by
 cases u with
 |c i off v=>
  obtain⟨q,aT,rfl,_⟩:=h;obtain⟨cs,h1,_⟩:=ah.rd q aT;exact(aAU.1 h1).1
 |o i ob=>
  obtain⟨q,aT,rfl⟩:=h;exact(aAU.1 (ah.ro q aT)).1
 |n ob=>trivial
def cJ.ind:cJ->cJ->Prop
 |.c i off _,.c j dI _=>i≠j\/off≠dI
 |.c i _ _,.o j _=>i≠j
 |.o i _,.c j _ _=>i≠j
 |.o i _,.o j _=>i≠j
 |.n _,.n _=>False
 |_,_=>True
theorem getD_set_ne{s:aV}{i j:Nat}{ob:b3}(h:i≠j):(s.set i ob).getD j .dead=s.getD j .dead:=axu
theorem at2{s:aV}{i:Nat}{ob:b3}(h:i<s.length):(s.set i ob).getD i .dead=ob:=axu
theorem at3{s:aV}{i:Nat}{ob:b3}(h:i<s.length):(s++[ob]).getD i .dead=s.getD i .dead:=axv
theorem agK{u rQ:cJ}{s:aV}(h:u.ind rQ)(h1:u.idx s)(h2:rQ.idx s):u.app (rQ.app s)=rQ.app (u.app s):=by
 have uF:∀(i off:Nat) (v:ag) (j dI:Nat) (v':ag),i≠j\/off≠dI->i<s.length->j<s.length->(cJ.c i off v).app ((cJ.c j dI v').app s)=(cJ.c j dI v').app ((cJ.c i off v).app s):=by
  intro i off v j dI v' h hi aL;by_cases eQ:i=j
  .have bb:=by omega
   simp[cJ.app];cases aq:s.getD i .dead with
   |box cs=>
    simp_all[aB8,azZ]
   |_=>simp_all
  .simp only[cJ.app];cases aq:s.getD i .dead<;>cases eW:s.getD j .dead<;>simp only[aq,eW,getD_set_ne eQ,getD_set_ne (azZ eQ)];simp_all[aB8,azZ]
 have co:∀(i off:Nat) (v:ag) (j:Nat) (ob:b3),i≠j->(cJ.c i off v).app ((cJ.o j ob).app s)=(cJ.o j ob).app ((cJ.c i off v).app s):=by
  intro i off v j ob eQ;simp only[cJ.app,getD_set_ne (azZ eQ)];cases aq:s.getD i .dead<;>simp;simp_all[aB8]
 have lk:∀(i off:Nat) (v:ag) (ob:b3),i<s.length->(cJ.c i off v).app ((cJ.n ob).app s)=(cJ.n ob).app ((cJ.c i off v).app s):=by
  grind[cJ.app]
 have on:∀(i:Nat) (cY ob:b3),i<s.length->(cJ.o i cY).app ((cJ.n ob).app s)=(cJ.n ob).app ((cJ.o i cY).app s):=by
  grind[cJ.app]
 cases u with
 |c i off v=>cases rQ with
  |c j dI v'=>exact uF i off v j dI v' h h1 h2
  |o j ob=>exact co i off v j ob h
  |n ob=>exact lk i off v ob h1
 |o i cY=>cases rQ with
  |c j dI v'=>exact(co j dI v' i cY (azZ h)).symm
  |o j ob=>simp[cJ.app];rw[aB8 _ _ (azZ h)]
  |n ob=>exact on i cY ob h1
 |n cY=>cases rQ with
  |c j dI v'=>exact(lk j dI v' cY h2).symm
  |o j ob=>exact(on j ob cY h2).symm
  |n ob=>exact h.elim
theorem O7{u:cJ}:∀{ws:List cJ} {s:aV},(∀v,v∈ws->u.ind v)->u.idx s->(∀v,v∈ws->v.idx s)->apps ws (u.app s)=u.app (apps ws s)
 |[],_,_,_,_=>rfl
 |v::ws,s,h,h1,h2=>by
  simp[apps];rw[<-agK (h v axt) h1 (h2 v axt)];exact O7 (λw hw=>h w (by simp[hw])) (En h1) (λw hw=>En (h2 w (by simp[hw])))
theorem O8:∀{us ws:List cJ} {s:aV},(∀u,u∈us->∀v,v∈ws->u.ind v)->(∀u,u∈us->u.idx s)->(∀v,v∈ws->v.idx s)->apps us (apps ws s)=apps ws (apps us s)
 |[],_,_,_,_,_=>rfl
 |u::us,ws,s,h,h1,h2=>by
  simp[apps];rw[<-O7 (h u axt) (h1 u axt) h2];exact O8 (λw hw=>h w (by simp[hw])) (λw hw=>En (h1 w (by simp[hw]))) (λv hv=>En (h2 v hv))
def cJ.safe(E:h'):cJ->Prop
 |.c i off _=>(∀q,q∈E.rd->q.1≠i\/off<q.2.1\/q.2.1+q.2.2.length<=off)/\∀q,q∈E.ro->q.1≠i
 |.o i ob=>(∀q,q∈E.rd->q.1≠i\/∃cs,ob=.box cs/\q.2.1+q.2.2.length<=cs.length/\(cs.drop q.2.1).take q.2.2.length=q.2.2)/\∀q,q∈E.ro->q.1≠i
 |.n _=>E.len=none
theorem O9{cs:List ag}{off n j:Nat}{v:ag}(h:j<off\/off+n<=j):((cs.set j v).drop off).take n=(cs.drop off).take n:=by
 apply aBj;grind
theorem agL{E:h'}{u:cJ}{s:aV}(h:u.safe E)(ah:iO E s):iO E (u.app s):=by
 cases u with
 |c i off v=>
  simp[cJ.app];split
  .rename_i cs aq;have hi:i<s.length:=axv;have hs:s[i]?=some (.box cs):=axu;refine⟨λq aT=> ?_,λq aT=> ?_,λn az=>by grind[iO.len]⟩
   .obtain⟨dY,h1,h2,av⟩:=ah.rd q aT;by_cases lP:q.1=i
    .have a6:=(h.1 q aT).resolve_left (λcB=>cB lP);rw[lP]at h1;rw[hs]at h1;simp at h1;refine⟨cs.set off v,axu,axu,?_⟩;grind[O9]
    .exact⟨dY,axv,h2,av⟩
   .rw[aAm (azZ (h.2 q aT))];exact ah.ro q aT
  omega
 |o i ob=>
  simp[cJ.app];refine⟨λq aT=> ?_,λq aT=> ?_,λn az=>by grind[iO.len]⟩
  .obtain⟨dY,h1,h2,av⟩:=ah.rd q aT;by_cases lP:q.1=i
   .obtain⟨cs,rfl,bN,cz⟩:=(h.1 q aT).resolve_left (λcB=>cB lP);have hi:i<s.length:=axv;exact⟨cs,axu,bN,cz⟩
   .exact⟨dY,axv,h2,av⟩
  .rw[aAm (azZ (h.2 q aT))];exact ah.ro q aT
 |n ob=>
  simp[cJ.app];refine⟨λq aT=> ?_,λq aT=> ?_,λn az=>by rw[show E.len=none from h]at az;simp_all⟩
  .obtain⟨dY,h1,h2,av⟩:=ah.rd q aT;have hi:=(aAU.1 h1).1;exact⟨dY,axv,h2,av⟩
  .have hi:=(aAU.1 (ah.ro q aT)).1;grind[iO.ro]
theorem O'{E:h'}:∀{ws:List cJ} {s:aV},(∀u,u∈ws->u.safe E)->iO E s->iO E (apps ws s)
 |[],_,_,ah=>ah
 |u::ws,s,h,ah=>by
  exact O' (s:=u.app s) (λv hv=>h v (by simp[hv])) (agL (h u axt) ah)
structure Eo(X Y:h'):Prop where
 old:∀i ob,cJ.o i ob∈Y.ws->∀q,q∈X.rd->q.1=i->∃cs,(i,b3.box cs)∈Y.ro/\q.2.1+q.2.2.length<=cs.length/\(cs.drop q.2.1).take q.2.2.length=q.2.2
 len:∀n,Y.len=some n->(∀q,q∈X.rd->q.1<n)/\(∀q,q∈X.ro->q.1<n)/\X.len=none
structure Ep(X Y:h'):Prop where
 Pa:∀u,u∈Y.ws->u.safe X
 Pb:∀u,u∈X.ws->u.safe Y
 ww:∀u,u∈X.ws->∀v,v∈Y.ws->u.ind v
 agM:Eo X Y
 Pc:Eo Y X
theorem Pf{i off n:Nat}{l:List ag}(aH:l.length=n):∀{ws:List cJ} {s:aV},i<s.length->(∀ob,cJ.o i ob∉ws)->(∀j v,cJ.c i j v∈ws->j<off\/off+n<=j)->IJ (apps ws s) (i,off,l)->IJ s (i,off,l)
 |[],_,_,_,_,h=>h
 |u::ws,s,hi,bb,ay,h=>by
  have cG:=Pf aH (ws:=ws) (s:=u.app s) (az' hi (Em u s)) (λob hm=>bb ob axv) (λj v hm=>ay j v axv) h;obtain⟨dY,h1,h2,av⟩:=cG;cases u with
  |n ob=>
   simp[cJ.app]at h1;rw[aAp hi]at h1;exact⟨dY,h1,h2,av⟩
  |o j ob=>
   simp[cJ.app]at h1;by_cases aL:j=i
   .simp_all
   .rw[aAm aL]at h1;exact⟨dY,h1,h2,av⟩
  |c j k v=>
   simp[cJ.app]at h1;split at h1
   .rename_i cs aq;by_cases aL:j=i
    .subst aL;rw[aAq hi]at h1;simp at h1;subst h1;have au:=ay k v axt;simp at h2;have e:s[j]?=some (.box cs):=axu;refine⟨cs,e,h2,?_⟩;grind[O9]
    .rw[aAm aL]at h1;exact⟨dY,h1,h2,av⟩
   .exact⟨dY,h1,h2,av⟩
theorem Pg{i:Nat}{ob:b3}:∀{ws:List cJ} {s:aV},i<s.length->(∀ob,cJ.o i ob∉ws)->(∀j v,cJ.c i j v∉ws)->(apps ws s)[i]?=some ob->s[i]?=some ob
 |[],_,_,_,_,h=>h
 |u::ws,s,hi,bb,ay,h=>by
  have h1:=Pg (ws:=ws) (s:=u.app s) (az' hi (Em u s)) (λob hm=>bb ob (by simp[hm])) (λj v hm=>ay j v (by simp[hm])) h;cases u with
  |n ob=>
   simp[cJ.app]at h1;rwa [aAp hi]at h1
  |o j ob=>
   simp[cJ.app]at h1;by_cases aL:j=i
   .subst aL;exact absurd axt (bb ob)
   .rwa [aAm aL]at h1
  |c j k v=>
   simp[cJ.app]at h1;split at h1
   .by_cases aL:j=i
    .subst aL;exact absurd axt (ay k v)
    .rwa [aAm aL]at h1
   .exact h1
theorem agN:∀(ws:List cJ) (s:aV),s.length<=(apps ws s).length
 |[],_=>azI _
 |u::ws,s=>aAs (Em u s) (agN ws _)
theorem IK:∀{ws:List cJ} {s:aV},(∀ob,cJ.n ob∉ws)->(apps ws s).length=s.length
 |[],_,_=>rfl
 |u::ws,s,h=>by
  have:=IK (ws:=ws) (s:=u.app s) λob hm=>h ob (by simp[hm]);show(apps ws (u.app s)).length=_;rw[this];cases u with
  |n ob=>exact absurd axt (h ob)
  |o j ob=>simp[cJ.app]
  |c j k v=>simp[cJ.app];split<;>simp
theorem agO{X Y:h'}(h:∀u,u∈Y.ws->u.safe X)(aq:Eo X Y)(tj:∀u,u∈Y.ws->u.at Y){s:aV}(hy:iO Y s)(ak:iO X (apps Y.ws s)):iO X s:=by
 have aB:∀{i:Nat},(∀n,Y.len=some n->i<n)->i<(apps Y.ws s).length->i<s.length:=by
  intro i h1 h2;cases aH:Y.len with
  |none=>
   rwa [IK (λob hm=>(tj _ hm) aH)]at h2
  |some n=>grind[iO.len]
 refine⟨λq aT=> ?_,λq aT=> ?_,λn az=> ?_⟩
 .have h1:=ak.rd q aT;have hi:q.1<s.length:=by
   obtain⟨cs,h2,_⟩:=h1;exact aB (λn aH=>(aq.len n aH).1 q aT) (aAU.1 h2).1
  by_cases bb:∃ob,cJ.o q.1 ob∈Y.ws
  .obtain⟨ob,bb⟩:=bb;obtain⟨cs,bN,cz,gM⟩:=aq.old q.1 ob bb q aT rfl;exact⟨cs,hy.ro _ bN,cz,gM⟩
  .obtain⟨i,off,l⟩:=q;exact Pf rfl hi (λob hm=>bb ⟨ob,hm⟩) (λj v hm=>((h _ hm).1 _ aT).resolve_left (λe=>e rfl)) h1
 .have h1:=ak.ro q aT;have hi:=aB (λn aH=>(aq.len n aH).2.1 q aT) (aAU.1 h1).1;exact Pg hi (λob hm=>(h _ hm).2 q aT rfl) (λj v hm=>(h _ hm).2 q aT rfl) h1
 .have h1:=ak.len n az;rw[<-h1];refine(IK λob hm=> ?_).symm;have:=h _ hm;rw[show X.len=none from this]at az;simp_all
mutual
theorem Er:∀{a b:D},kd a b=true->a=b
 |.bool a,b,h=>ay2
 |.int k a,b,h=>by cases b<;>simp[kd]at h;rw[h.1,h.2]
 |.str a,b,h=>ay2
 |.list z a,b,h=>by
  cases b<;>simp[kd]at h;rw[h.1,Bq h.2]
 |.agg a,b,h=>by
  cases b<;>simp[kd]at h;rw[Bq h]
 |.dO,b,h=>ayD
 |.hj,b,h=>ayD
 |.k5,b,h=>ayD
 |.ig,b,h=>ayD
 |.fn a,b,h=>ay2
 |.eY a n,b,h=>by
  cases b<;>simp[kd]at h;rw[Bq h.1,h.2]
 |.iface t x,b,h=>by
  cases b<;>simp[kd]at h;rw[h.1,Er h.2]
 |.k6 a c,b,h=>by cases b<;>simp[kd]at h
 |.hL,b,h=>by cases b<;>simp[kd]at h
theorem Bq:∀{a b:List D},sB a b=true->a=b
 |[],[],_=>rfl
 |[],_::_,h=>by simp[sB]at h
 |_::_,[],h=>by simp[sB]at h
 |x::a,y::b,h=>by
  simp only[sB,azH]at h;rw[Er h.1,Bq h.2]
end
theorem IL{a b:ag}(h:Dp a b=true):a=b:=by
 cases a<;>cases b<;>simp[Dp]at h
 .rw[Er h]
 .rw[h.1,Bq h.2]
 all_goals simp_all
theorem Ph:∀{a b:List ag},x0 a b=true->a=b
 |[],[],_=>rfl
 |[],_::_,h=>by grind[x0]
 |_::_,[],h=>by grind[x0]
 |x::a,y::b,h=>by
  simp[x0,azH]at h;rw[IL h.1,Ph h.2]
structure j1(E:h')(f:iW):Prop where
 rd:∀q,q∈E.rd->(q.1,q.2.1,q.2.2.length)∈f.r++f.w\/(q.1,0,big)∈f.r++f.w
 ro:∀q,q∈E.ro->(q.1,0,big)∈f.r++f.w\/∃ids fv s,f.c=some (ids,fv,s)/\q.1∈ids
 len:∀n,E.len=some n->f.a=some n
 k:E.k=f.k
 Es:∀i off v,cJ.c i off v∈E.ws->∃o n,(i,o,n)∈f.w/\(n=big\/o<=off/\off<o+n)
 wK:∀i ob,cJ.o i ob∈E.ws->(i,0,big)∈f.w\/∃ids fv s,f.c=some (ids,fv,s)/\i∈ids/\s.getD i .dead=ob/\(i,fv.getD i .dead)∈E.ro
 wn:∀ob,cJ.n ob∈E.ws->f.a≠none
 ca:f.c≠none->f.a≠none
 v:f.v.length=1->f.r.length=1->f.w=[]->f.c=none->(∀q,q∈E.rd->q∈f.v)/\E.ro=[]
theorem qz{a b:List (Nat×Nat×Nat)}(h:me a b=true){x y:Nat×Nat×Nat}(ak:x∈a)(hy:y∈b):x.1≠y.1\/(x.2.2≠big/\y.2.2≠big/\(x.2.1+x.2.2<=y.2.1\/y.2.1+y.2.2<=x.2.1)):=by
 have:=azX.1 (azX.1 h x ak) y hy;simp at this;rcases this with h|⟨⟨h1,h2⟩,av⟩
 .left;intro e;simp_all
 .right;refine⟨λe=>axu,λe=>axu,?_⟩;simp_all
theorem agP{a b:List (Nat×Nat×Nat)}(h:me a b=true):me b a=true:=by
 unfold me;rw[azX];intro y hy;rw[azX];intro x ak;have:=azX.1 (azX.1 h x ak) y hy;simp at this⊢;rcases this with h|⟨⟨h1,h2⟩,av⟩
 .grind[Nat.eq_of_beq_eq_true]
 grind
theorem Br{f g:iW}{ids:List Nat}{fv s:aV}(h:o0 f g=true)(ay:f.c=some (ids,fv,s)):
  g.c=none/\(∀c,c∈g.w->c.1∉ids)/\((∀c,c∈g.r->c.1∉ids)\/(g.w=[]/\g.r.length=1/\g.v.length=1/\∀c,c∈g.v->c.1∉ids\/(sameAt fv c=true/\sameAt s c=true))):=by
 unfold o0 at h;rw[ay]at h;simp only[azH,azX,aA2,az8,Option.isNone_iff_eq_none,List.isEmpty_iff]at h;obtain⟨⟨h1,h2⟩,av⟩:=h;have ne:∀{i:Nat},dk i ids=false->i∉ids:=by
  intro i hi hm;have:dk i ids=true:=by
   clear ay h2 av hi;induction ids with
   |nil=>simp_all
   |cons j l ih=>
    simp[dk];rcases azY.1 hm with rfl|hm
    all_goals simp_all
  simp_all
 refine⟨h1,λc ay=>ne (h2 c ay),?_⟩;rcases av with av|⟨⟨⟨av,aZ⟩,bW⟩,dh⟩
 .grind
 .exact .inr ⟨av,azR bW,azR dh,λc ay=>(aZ c ay).imp ne id⟩
theorem Pj{s:aV}{q:Nat×Nat×List ag}(h:sameAt s q=true):∃cs,s.getD q.1 .dead=.box cs/\q.2.1+q.2.2.length<=cs.length/\(cs.drop q.2.1).take q.2.2.length=q.2.2:=by
 unfold sameAt at h;split at h
 .rename_i cs e;simp only[azH]at h;exact⟨cs,e,azW h.1,(Ph h.2).symm⟩
 simp_all
theorem IP{f g:iW}(h:q6 f g=true){n:Nat}(az:f.a=some n):g.a=none/\(∀c,c∈g.r++g.w->c.1<n):=by
 unfold q6 at h;rw[az]at h;simp at h;grind
theorem Pk{X Y:h'}{en fk:iW}(jI:j1 X en)(kt:j1 Y fk)(a6:me fk.w (en.r++en.w)=true)(ay:o0 en fk=true)(tk:o0 fk en=true)(br:q6 fk en=true):∀u,u∈Y.ws->u.safe X:=by
 have wL:∀(i:Nat),(∃o n,(i,o,n)∈fk.w)->∀q,q∈X.ro->q.1≠i:=by
  rintro i ⟨o,n,hw⟩ q aT;rcases jI.ro q aT with h|⟨ids,fv,s,h1,h2⟩
  .rcases qz a6 hw h with h|⟨_,h,_⟩
   all_goals grind
  grind[Br]
 intro u hu;cases u with
 |c i off v=>
  obtain⟨o,n,hw,dM⟩:=kt.Es i off v hu;refine⟨λq aT=> ?_,wL i ⟨o,n,hw⟩⟩;rcases jI.rd q aT with h|h
  .rcases qz a6 hw h with h|⟨h1,h2,av⟩
   all_goals grind
  .rcases qz a6 hw h with h|⟨_,h,_⟩
   all_goals grind
 |o i ob=>
  rcases kt.wK i ob hu with hw|⟨ids,fv,s,h1,h2,av,aZ⟩
  .refine⟨λq aT=>.inl ?_,wL i ⟨0,big,hw⟩⟩;rcases jI.rd q aT with h|h
   .rcases qz a6 hw h with h|⟨h,_⟩
    all_goals grind
   .rcases qz a6 hw h with h|⟨h,_⟩
    all_goals grind
  .obtain⟨bN,cz,gM⟩:=Br tk h1;have cB:∀j o n,(j,o,n)∈en.r++en.w->(∀c,c∈en.r->c.1∉ids)->j∉ids:=axv;rcases gM with gM|⟨gM,nL,qq,Bh⟩
   .refine⟨λq aT=>.inl ?_,λq aT=> ?_⟩
    .rintro rfl;rcases jI.rd q aT with h|h
     all_goals grind
    grind[j1.ro]
   .obtain⟨v2,v3⟩:=jI.v qq nL gM bN;refine⟨λq aT=> ?_,λq aT=>axu⟩;grind[Pj]
 |n ob=>
  show X.len=none;have h1:=kt.wn ob hu;cases aH:X.len with
  |none=>rfl
  |some n=>
   cases hy:fk.a with
   |none=>simp_all
   |some m=>
    have:=(IP br hy).1;grind[j1.len]
theorem Pl{X Y:h'}{en fk:iW}(jI:j1 X en)(kt:j1 Y fk)(a6:me fk.w (en.r++en.w)=true)(tk:o0 fk en=true)(br:q6 fk en=true):Eo X Y:=by
 refine⟨λi ob hu q aT lP=> ?_,λn aH=> ?_⟩
 .rcases kt.wK i ob hu with hw|⟨ids,fv,s,h1,h2,av,aZ⟩
  .rcases jI.rd q aT with h|h
   .rcases qz a6 hw h with h|⟨h,_⟩
    all_goals simp_all
   .rcases qz a6 hw h with h|⟨h,_⟩
    all_goals simp_all
  .obtain⟨bN,cz,gM⟩:=Br tk h1;rcases gM with gM|⟨gM,nL,qq,Bh⟩
   .rcases jI.rd q aT with h|h
    all_goals grind
   .obtain⟨v2,_⟩:=jI.v qq nL gM bN;grind[Pj]
 .obtain⟨h1,h2⟩:=IP br (kt.len n aH);refine⟨λq aT=> ?_,λq aT=> ?_,?_⟩
  .rcases jI.rd q aT with h|h
   all_goals grind
  .rcases jI.ro q aT with h|⟨_,_,_,h,_⟩
   all_goals grind[j1.ca]
  .cases ak:X.len with
   |none=>rfl
   |some m=>grind[j1.len]
theorem agQ{X Y:h'}{en fk:iW}(jI:j1 X en)(kt:j1 Y fk)(IQ:me en.w (fk.r++fk.w)=true)(mX:me fk.w en.r=true)(ay:o0 en fk=true)(tk:o0 fk en=true)(br:q6 en fk=true)(Pm:q6 fk en=true):Ep X Y:=by
 have uO:me en.w fk.w=true:=by
  unfold me at IQ⊢;grind
 have Et:me fk.w (en.r++en.w)=true:=by
  unfold me at mX⊢;rw[azX]at mX⊢;intro y hy;rw[aCo,azH];exact⟨mX y hy,azX.1 (agP uO) y hy⟩
 refine⟨Pk jI kt Et ay tk Pm,Pk kt jI IQ tk ay br,?_,Pl jI kt Et tk Pm,Pl kt jI IQ ay br⟩;intro u hu v hv;have call:∀{f g:iW} {ids:List Nat} {fv s:aV},o0 f g=true->f.c=some (ids,fv,s)->∀{i o n:Nat},i∈ids->(i,o,n)∈g.w->False:=by
  intro f g ids fv s h h1 i o n hi hw;exact(Br h h1).2.1 _ hw hi
 cases u with
 |c i off x=>
  obtain⟨o,n,hw,dM⟩:=jI.Es i off x hu;cases v with
  |c j dI bx=>
   obtain⟨o',n',jH,Eu⟩:=kt.Es j dI bx hv;rcases qz uO hw jH with h|⟨h1,h2,av⟩
   .exact .inl h
   .rcases dM with dM|dM
    .simp_all
    .rcases Eu with Eu|Eu
     .simp_all
     .right;grind
  |o j ob=>
   rcases kt.wK j ob hv with jH|⟨ids,fv,s,h1,h2,_⟩
   .rcases qz uO hw jH with h|⟨_,h,_⟩
    .exact h
    simp_all
   .rintro rfl;grind
  |n ob=>trivial
 |o i IU=>
  cases v with
  |c j dI bx=>
   obtain⟨o',n',jH,Eu⟩:=kt.Es j dI bx hv;rcases jI.wK i IU hu with hw|⟨ids,fv,s,h1,h2,_⟩
   .rcases qz uO hw jH with h|⟨h,_⟩
    .exact h
    simp_all
   .rintro rfl;grind
  |o j ob=>
   rcases jI.wK i IU hu with hw|⟨ids,fv,s,h1,h2,_⟩
   .rcases kt.wK j ob hv with jH|⟨agR,Pn,s',cc,agS,_⟩
    .rcases qz uO hw jH with h|⟨h,_⟩
     .exact h
     simp_all
    .rintro rfl;grind
   .rcases kt.wK j ob hv with jH|⟨agR,Pn,s',cc,agS,_⟩
    .rintro rfl;grind
    .have:=(Br ay h1).1;simp_all
  |n ob=>trivial
 |n IU=>
  cases v with
  |c j dI bx=>trivial
  |o j ob=>trivial
  |n ob=>
   cases ak:en.a with
   |none=>grind[j1.wn]
   |some m=>exact absurd (IP br ak).1 (kt.wn ob hv)
def aB9:=@List.set_set
theorem ax0(h:p:=by simp[I.ws]):p:=h
theorem ayE(h:p:=by grind[List.drop_eq_getElem_cons]):p:=h
section
variable {P:Program}{gl:Nat->List D}
def iz(i:I)(E:h')(aN aU:af):af:=
 ⟨λt=>if t∈i.hw\/t∈E.k then aU.aP t else aN.aP t,λt=>if t∈i.gI then aU.bI t else aN.bI t,apps E.ws aN.s⟩
structure pk(P:Program)(gl:Nat->List D)(i:I)(st aU:af)(E:h'):Prop where
 aP:∀t,t∉i.hw->t∉E.k->aU.aP t=st.aP t
 bI:∀t,t∉i.gI->aU.bI t=st.bI t
 s:aU.s=apps E.ws st.s
 ah:iO E st.s
 k:∀t,t∈E.k->t∈i.kl
 at_:∀u,u∈E.ws->u.at E
 r0:i.rs=false->E.rd=[]/\E.ro=[]/\E.len=none
 w0:i.ws=false->E.ws=[]/\E.len=none
 mu:∀(aN:af) (bE:af->Prop),(∀t,t∈i.rd->aN.aP t=st.aP t)->(∀t,t∈i.oa->aN.bI t=st.bI t)->iO E aN.s->bE (iz i E aN aU)->step (bz P gl) gl i aN bE
def kS(P:Program)(gl:Nat->List D)(i:I):Prop:=∀(st:af) (K:af->Prop),step (bz P gl) gl i st K->∃aU E,K aU/\pk P gl i st aU E/\j1 E (gk gl i st aU)
theorem tm{i:I}{E:h'}{aN aU qy:af}(h1:∀t,(if t∈i.hw\/t∈E.k then aU.aP t else aN.aP t)=qy.aP t)(h2:∀t,(if t∈i.gI then aU.bI t else aN.bI t)=qy.bI t)(av:apps E.ws aN.s=qy.s):
  iz i E aN aU=qy:=by
 obtain⟨a,b,c⟩:=qy;simp[iz,af.mk.injEq];simp_all
theorem yP:j1 {} {}:=⟨axt,axt,axt,rfl,axt,axt,axt,axt,axt⟩
theorem agT{i:I}(h2:ra i=false)(aw:i.rs=false)(au:i.kl=[])(bm:∀st aU,gk gl i st aU={}):kS P gl i:=by
 intro st K h;obtain⟨aU,h1,bh,a2,a3,a4⟩:=agJ h2 aw st K h;have hw:i.wr=i.hw:=by grind[I.wr]
 have rR:i.ws=false:=by
  cases rR:i.ws with
  |false=>rfl
  |true=>
   have:i.rs=true:=by cases i<;>simp[I.ws,I.rs]at rR⊢
   simp_all
 refine⟨aU,{},h1,⟨λt aC _=>bh t axu,a2,a3 rR,⟨axt,axt,axt⟩,axt,axt,λ_=>⟨rfl,rfl,rfl⟩,λ_=>⟨rfl,rfl⟩,?_⟩,by grind[yP]⟩;intro aN bE aj aD _ hf;refine a4 aN bE ⟨aj,aD,axu⟩ ?_;grind[mix,iz,apps]
theorem i1{i:I}{st aN:af}(h:∀t,t∈i.rd->aN.aP t=st.aP t){x:O}(ak:∀t,t∈x.slots->t∈i.rd):aJ.aK gl aN x=aJ.aK gl st x:=by
 cases x with
 |t n=>exact h n (ak n (by simp[O.slots]))
 |c v=>rfl
 |g n=>rfl
theorem pk.nP{i:I}{d:Nat}{v:ag}{E:h'}{st:af}(wM:i.rs=true)(mv:i.ws=false->E.ws=[]/\E.len=none)(hw:i.hw=[d])(aq:i.gI=[])(au:E.k=[])(ah:iO E st.s)(tj:∀u,u∈E.ws->u.at E)
  (mu:∀(aN:af) (bE:af->Prop),(∀t,t∈i.rd->aN.aP t=st.aP t)->iO E aN.s->bE ({aN with s:=apps E.ws aN.s}.set d v)->step (bz P gl) gl i aN bE):
  pk P gl i st ({st with s:=apps E.ws st.s}.set d v) E:=by
 refine⟨λt aC _=> ?_,λt _=>rfl,rfl,ah,axu,tj,λh=>axu,mv,λaN bE aj _ aW hf=>mu aN bE aj aW ?_⟩
 .simp_all[af.set,df]
 .have:iz i E aN ({st with s:=apps E.ws st.s}.set d v)={aN with s:=apps E.ws aN.s}.set d v:=by
   refine tm (λt=> ?_) (λt=>by grind[af.set]) rfl;simp_all[af.set,df]
  simp_all
theorem IV{s:aV}{i:Nat}{ob:b3}(h:s.getD i .dead=ob)(a6:ob≠.dead):s[i]?=some ob:=axv
theorem mY{s:aV}{i:Nat}{ob:b3}(h:s[i]?=some ob):s.getD i .dead=ob:=axu
theorem agU{cs gA:List ag}{off n:Nat}{ah:Bool}(h:(gA.drop off).take n=(cs.drop off).take n)(az:(ah||Nat.beq n 1)=true)(h1:off+n<=cs.length)(h2:off+n<=gA.length):valOf gA off n ah=valOf cs off n ah:=by
 unfold valOf;cases ah with
 |true=>simp_all
 |false=>
  obtain rfl:n=1:=azR az;have aj:(cs.drop off).take 1=[cs.getD off .undef]:=ayE;have aD:(gA.drop off).take 1=[gA.getD off .undef]:=ayE;simp_all
theorem agV{d n:Nat}{ah:Bool}{x:O}:kS P gl (.aH d x n ah):=by
 intro st K h;simp only[step]at h;split at h
 .rename_i i off aj;split at h
  .rename_i cs aD;obtain⟨aE,h⟩:=h;simp only[azH]at aE;have hle:=azW aE.1;have hlen:((cs.drop off).take n).length=n:=axv;refine⟨_,{rd:=[(i,off,(cs.drop off).take n)]},h,.nP (E:={rd:=[(i,off,(cs.drop off).take n)]}) rfl (λ_=>⟨rfl,rfl⟩) rfl rfl rfl ⟨?_,axt,axt⟩ axt λaN bE aW bQ au=> ?_,?_⟩
   .intro q aT;simp at aT;subst aT;exact⟨cs,IV aD axt,axu,axt⟩
   .obtain⟨gA,f1,f2,f3⟩:=bQ.rd _ (az9.2 rfl);simp[hlen]at f1 f2 f3;have hv:=agU f3 aE.2 hle f2;simp only[step,i1 (gl:=gl) aW (x:=x) (λt aC=>aC),aj,mY f1,hG];refine⟨axu,?_⟩;rw[hv];exact au
   .simp only[gk,aj,aD];refine⟨?_,axt,axt,rfl,axt,axt,axt,axt,λ_ _ _ _=>⟨λq aT=>aT,rfl⟩⟩;simp_all
  .exact h.elim
 .rename_i cs off aj;obtain⟨aE,h⟩:=h;refine⟨_,{},h,.nP (E:={}) rfl (λ_=>⟨rfl,rfl⟩) rfl rfl rfl ⟨axt,axt,axt⟩ axt λaN bE aW bQ au=> ?_,?_⟩
  .simp only[step,i1 (gl:=gl) aW (x:=x) (λt aC=>aC),aj,hG];exact⟨aE,au⟩
  grind[gk,yP]
 .exact h.elim
theorem agW{d:Nat}{x:O}:kS P gl (.aC d x):=by
 intro st K h;simp[step]at h;split at h
 .rename_i i off aj;split at h
  .rename_i cs aD;obtain⟨aE,h⟩:=h;have aB:off<cs.length:=axu;have at4:(cs.drop off).take 1=[cs.getD off .undef]:=ayE;have wN:∀(s2:aV) (gA:List ag),s2[i]?=some (.box gA)->apps [cJ.c i off .undef] s2=s2.set i (.box (gA.set off .undef)):=by
    grind[apps,cJ.app]
   have fm:iO {rd:=[(i,off,[cs.getD off .undef])],ws:=[cJ.c i off .undef]} st.s:=by
    refine⟨?_,axt,axt⟩;intro q aT;simp only[az9]at aT;subst aT;exact⟨cs,IV aD axt,axv,axs⟩
   refine⟨_,{rd:=[(i,off,[cs.getD off .undef])],ws:=[.c i off .undef]},?_,.nP (v:=cs.getD off .undef) (E:={rd:=[(i,off,[cs.getD off .undef])],ws:=[.c i off .undef]}) rfl ax0 rfl rfl rfl fm ?_ λaN bE aW bQ au=> ?_,?_⟩
   .grind
   .intro u hu;simp at hu;subst hu;exact⟨_,az9.2 rfl,rfl,azI _,axt⟩
   .obtain⟨gA,f1,f2,f3⟩:=bQ.rd _ (az9.2 rfl);simp at f1 f2 f3;have fE:off<gA.length:=axs;have at5:(gA.drop off).take 1=[gA.getD off .undef]:=ayE;have hv:gA.getD off .undef=cs.getD off .undef:=axu;simp[step,i1 (gl:=gl) aW (x:=x) (λt aC=>aC),aj,mY f1,hG];simp_all
   .simp[gk,aj];refine⟨?_,axt,axt,rfl,?_,axt,axt,axt,axt⟩;all_goals grind
  .exact h.elim
 .exact h.elim
def oy(i:Nat):Nat->List ag->List cJ
 |_,[]=>[]
 |off,v::l=>.c i off v::oy i (off+1) l
theorem IW{i:Nat}:∀{l:List ag} {off:Nat} {u:cJ},u∈oy i off l->∃dI v,u=.c i dI v/\off<=dI/\dI<off+l.length
 |[],_,_,h=>by grind[oy]
 |v::l,off,u,h=>by
  simp[oy,azY]at h;rcases h with rfl|h
  .simp
  .obtain⟨dI,v',h1,h2,av⟩:=IW h;exact⟨dI,v',h1,axs,axD⟩
theorem IX{i:Nat}:∀{l:List ag} {off:Nat} {s:aV} {cs:List ag},s[i]?=some (.box cs)->apps (oy i off l) s=s.set i (.box (putCells cs off l))
 |[],off,s,cs,h=>by
  grind[oy,apps,putCells,Hv]
 |v::l,off,s,cs,h=>by
  have hi:=(aAU.1 h).1;simp only[oy,apps,putCells,cJ.app,mY h];rw[IX (cs:=cs.set off v) (by rw[aAq hi]),aB9]
theorem ayg(h:p:=by simp[gk]):p:=h
theorem Ev{st:af}{x:O}{t:Nat}(h:t∈kI st x):t∈x.slots:=by
 cases x with
 |t s=>
  grind[kI,O.slots]
 |c v=>grind[kI]
 |g n=>grind[kI]
theorem Ew{st:af}{x:O}{t:Nat}(h:t∉kI st x):(kill st x).aP t=st.aP t:=by
 cases x with
 |t s=>
  simp[kI,kill]at h⊢;split at h;all_goals simp_all[af.set,df]
 |c v=>rfl
 |g n=>rfl
theorem IY{st aN:af}{x:O}{t:Nat}(h:∀t,t∈x.slots->aN.aP t=st.aP t):(if t∈kI st x then(kill st x).aP t else aN.aP t)=(kill aN x).aP t:=by
 have au:kI aN x=kI st x:=by
  cases x with
  |t s=>grind[kI,O.slots]
  |c v=>rfl
  |g n=>rfl
 grind[O4,Ev,Ew]
theorem agX{d:Nat}{x:O}:kS P gl (.eZ d x):=by
 intro st K h;refine⟨_,{k:=kI st x},h,⟨λt aC au=> ?_,λt _=>by simp[af.set,rP],by simp[af.set,uN,apps],⟨axt,axt,axt⟩,λt aC=>Ev aC,axt,λ_=>⟨rfl,rfl,rfl⟩,λ_=>⟨rfl,rfl⟩,λaN bE aj aD _ hf=> ?_⟩,?_⟩
 .simp_all[I.hw,I.dst,af.set,df,Ew]
 .have e:=i1 (gl:=gl) aj (x:=x) (λt aC=>aC);have:iz (.eZ d x) {k:=kI st x} aN ((kill st x).set d (aK gl st x))=(kill aN x).set d (aK gl aN x):=by
   refine tm (λt=> ?_) (λt=>by simp[af.set,rP,I.gI]) (by simp[af.set,uN,apps]);simp[I.hw,I.dst,aBa,aBb,az9,af.set,df,e];by_cases h1:t=d
   .grind
   .simp[h1,false_or,az4];exact IY aj
  rw[this]at hf;exact hf
 .exact⟨axt,axt,axt,rfl,axt,axt,axt,ayg,axt⟩
theorem agY{t off n:Nat}{x y:O}:kS P gl (.ls x t off y n):=by
 intro st K h;simp[step]at h;split at h
 .rename_i ek dI cs aj aD;obtain⟨aE,h⟩:=h;refine⟨_,{k:=kI st y},h,⟨λu hu au=> ?_,λu hu=> ?_,by simp[af.dX,uN,apps],⟨axt,axt,axt⟩,λt aC=>Ev aC,axt,λ_=>⟨rfl,rfl,rfl⟩,λ_=>⟨rfl,rfl⟩,λaN bE bh a2 _ hf=> ?_⟩,?_⟩
  .simp_all[af.dX,Ew]
  .simp_all[I.gI,af.dX,df,rP]
  .have e:=a2 t ayf;have e':=i1 (gl:=gl) bh (x:=x) (λt aC=>az3 _ aC);have Bp:=i1 (gl:=gl) bh (x:=y) (λt aC=>aAf _ aC);have:iz (.ls x t off y n) {k:=kI st y} aN ((kill st y).dX t (putCells cs off (cellsOf (aK gl st y))))=(kill aN y).dX t (putCells cs off (cellsOf (aK gl st y))):=by
    refine tm (λu=> ?_) (λu=> ?_) (by simp[af.dX,uN,apps])
    .simp[I.hw,I.dst,Option.toList_none,aBb,aAi,false_or,af.dX];exact IY λu hu=>bh u (aAf _ hu)
    simp_all[I.gI,af.dX,df,rP]
   rw[this]at hf;simp[step,e,e',Bp,aj,aD];exact⟨aE,hf⟩
  .exact⟨axt,axt,axt,rfl,axt,axt,axt,ayg,axt⟩
 .exact h.elim
theorem agZ{n:Nat}{x y:O}:kS P gl (.hs x y n):=by
 intro st K h;simp[step]at h;split at h
 .rename_i i off aj;split at h
  .rename_i cs aD;obtain⟨aE,h⟩:=h;have og:=aE;simp only[azH]at og;have az:=azR og.1.1;have hle:=azW og.1.2;have hlen:((cs.drop off).take n).length=n:=axv;refine⟨_,{rd:=[(i,off,(cs.drop off).take n)],ws:=oy i off (cellsOf (aK gl st y)),k:=kI st y},h,⟨λu hu au=>Ew au,λu hu=>by simp[rP],?_,⟨?_,axt,axt⟩,λt aC=>Ev aC,?_,by simp[I.rs],ax0,λaN bE bh a2 a3 hf=> ?_⟩,?_⟩
   .grind[IX]
   .intro q aT;simp at aT;subst aT;exact⟨cs,IV aD axt,axu,axt⟩
   .intro u hu;obtain⟨dI,v,rfl,h1,h2⟩:=IW hu;refine⟨_,az9.2 rfl,rfl,h1,?_⟩;simp_all
   .obtain⟨gA,f1,f2,f3⟩:=a3.rd _ (az9.2 rfl);have e':=i1 (gl:=gl) bh (x:=x) (λt aC=>az3 _ aC);have Bp:=i1 (gl:=gl) bh (x:=y) (λt aC=>aAf _ aC);have:iz (.hs x y n) {rd:=[(i,off,(cs.drop off).take n)],ws:=oy i off (cellsOf (aK gl st y)),k:=kI st y} aN {kill st y with s:=st.s.set i (.box (putCells cs off (cellsOf (aK gl st y))))}={kill aN y with s:=aN.s.set i (.box (putCells gA off (cellsOf (aK gl st y))))}:=by
     refine tm (λu=> ?_) (λu=>by simp[I.gI,rP]) (IX f1);simp[I.hw,I.dst,Option.toList_none,aBb,aAi,false_or];exact IY λu hu=>bh u (aAf _ hu)
    rw[this]at hf;simp only[step,e',Bp,aj,mY f1];refine⟨?_,hf⟩;simp_all
   .simp[gk,aj];refine⟨?_,axt,axt,rfl,?_,?_,?_,axt,axt⟩;all_goals grind[IW]
  .exact h.elim
 .exact h.elim
theorem at6{a b:ag}(h:a=b):hl a=hl b:=by rw[h]
theorem ag0{d:Nat}{ah ok:Bool}{ks:List Nat}{m k:O}{z:ag}:kS P gl (.aI d ah ks m k z ok):=by
 intro st K h;have em:∀{aN:af},(∀t,t∈(I.aI d ah ks m k z ok).rd->aN.aP t=st.aP t)->aK gl aN m=aK gl st m/\aK gl aN k=aK gl st k:=λe=>⟨i1 (gl:=gl) e (λt aC=>az3 _ aC),i1 (gl:=gl) e (λt aC=>aAf _ aC)⟩;have wO:(∀i,aK gl st m≠.map i)->∀aU,j1 {} (gk gl (.aI d ah ks m k z ok) st aU):=by
  grind[gk,yP]
 simp[step]at h;split at h
 .exact h.elim
 .rename_i hk ch;obtain⟨aE,h⟩:=h;split at h
  .rename_i aj;refine⟨_,{},h,.nP (E:={}) rfl (λ_=>⟨rfl,rfl⟩) rfl rfl rfl ⟨axt,axt,axt⟩ axt λaN bE aW _ au=> ?_,wO axu _⟩;simp[step,(em aW).1,(em aW).2,ch,aj];exact⟨aE,au⟩
  .rename_i kl vl aj;split at h
   .rename_i aD;refine⟨_,{},h,.nP (E:={}) rfl (λ_=>⟨rfl,rfl⟩) rfl rfl rfl ⟨axt,axt,axt⟩ axt λaN bE aW _ au=> ?_,wO axu _⟩;simp[step,(em aW).1,(em aW).2,ch,aj,aD];exact⟨aE,au⟩
   .rename_i j aD;split at h
    .rename_i v bQ;refine⟨_,{},h,.nP (E:={}) rfl (λ_=>⟨rfl,rfl⟩) rfl rfl rfl ⟨axt,axt,axt⟩ axt λaN bE aW _ au=> ?_,wO axu _⟩;simp[step,(em aW).1,(em aW).2,ch,aj,aD,bQ];exact⟨aE,au⟩
    .exact h.elim
   .exact h.elim
  .rename_i i aj;split at h
   .rename_i es cK;have dK:iO {ro:=[(i,.map es)]} st.s:=by
     refine⟨axt,?_,axt⟩;grind
    have Bs:∀aU,j1 {ro:=[(i,.map es)]} (gk gl (.aI d ah ks m k z ok) st aU):=by
     intro aU;simp[gk,aj];refine⟨axt,?_,axt,rfl,axt,axt,axt,axt,axt⟩;simp
    split at h
    .rename_i aD;refine⟨_,{ro:=[(i,.map es)]},h,.nP (E:={ro:=[(i,.map es)]}) rfl (λ_=>⟨rfl,rfl⟩) rfl rfl rfl dK axt λaN bE aW dQ au=> ?_,Bs _⟩;have:=mY (dQ.ro _ (az9.2 rfl));simp only[step,(em aW).1,(em aW).2,ch,aj,this,aD];exact⟨aE,au⟩
    .rename_i j aD;split at h
     .rename_i v bQ;refine⟨_,{ro:=[(i,.map es)]},h,.nP (E:={ro:=[(i,.map es)]}) rfl (λ_=>⟨rfl,rfl⟩) rfl rfl rfl dK axt λaN bE aW dQ au=> ?_,Bs _⟩;have:=mY (dQ.ro _ (az9.2 rfl));simp only[step,(em aW).1,(em aW).2,ch,aj,this,aD,bQ];exact⟨aE,au⟩
     .exact h.elim
    .exact h.elim
   .exact h.elim
  .exact h.elim
theorem pk.ag1{i:I}{E:h'}{st:af}(wM:i.rs=true)(mv:i.ws=true)(hw:i.dst=none/\i.hw=[])(aq:i.gI=[])(au:E.k=[])(ah:iO E st.s)(tj:∀u,u∈E.ws->u.at E)
  (mu:∀(aN:af) (bE:af->Prop),(∀t,t∈i.rd->aN.aP t=st.aP t)->iO E aN.s->bE {aN with s:=apps E.ws aN.s}->step (bz P gl) gl i aN bE):
  pk P gl i st {st with s:=apps E.ws st.s} E:=by
 refine⟨λt aC _=>rfl,λt _=>rfl,rfl,ah,axu,tj,λh=>axu,λh=>axu,λaN bE aj _ aW hf=>mu aN bE aj aW ?_⟩;simp_all[iz]
theorem ag2{ah:Bool}{ks:List Nat}{m k x:O}:kS P gl (.n7 ah ks m k x):=by
 intro st K h;simp[step]at h;split at h
 .rename_i i hk aj ch;split at h
  .rename_i es aD;split at h
   .rename_i j bQ;obtain⟨aE,h⟩:=h;have wN:∀{s:aV},apps [cJ.o i (.map (nD es hk (cE (aK gl st x)) j))] s=s.set i (.map (nD es hk (cE (aK gl st x)) j)):=rfl;refine⟨_,{ro:=[(i,.map es)],ws:=[.o i (.map (nD es hk (cE (aK gl st x)) j))]},h,.ag1 (E:={ro:=[(i,.map es)],ws:=[.o i (.map (nD es hk (cE (aK gl st x)) j))]}) rfl rfl ⟨rfl,rfl⟩ rfl rfl ⟨axt,?_,axt⟩ ?_ λaN bE aW dQ au=> ?_,?_⟩
    .grind
    .intro u hu;simp at hu;subst hu;exact⟨_,az9.2 rfl,rfl⟩
    .have:=mY (dQ.ro _ (az9.2 rfl));have f1:=i1 (gl:=gl) aW (x:=m) (λt aC=>az3 _ (az3 _ aC));have f2:=i1 (gl:=gl) aW (x:=k) (λt aC=>az3 _ (aAf _ aC));have f3:=i1 (gl:=gl) aW (x:=x) (λt aC=>aAf _ aC);simp only[step,f1,f2,f3,ch,aj,this,bQ];exact⟨aE,au⟩
    .simp[gk,aj];refine⟨axt,?_,axt,rfl,axt,?_,axt,axt,axt⟩;all_goals simp
   .exact h.elim
  .exact h.elim
 .exact h.elim
def aB':=@List.map_congr_left
theorem pk.tp{i:I}{U:(Nat->ag)->Nat->ag}{E:h'}{st:af}(wM:i.rs=true)(mv:i.ws=false->E.ws=[]/\E.len=none)(aq:i.gI=[])(au:E.k=[])
  (h1:∀(f:Nat->ag) t,t∉i.hw->U f t=f t) (h2:∀f f2 t,t∈i.hw->(∀t,t∈i.rd->f2 t=f t)->U f2 t=U f t) (ah:iO E st.s) (tj:∀u,u∈E.ws->u.at E)
  (mu:∀(aN:af) (bE:af->Prop),(∀t,t∈i.rd->aN.aP t=st.aP t)->iO E aN.s->bE ⟨U aN.aP,aN.bI,apps E.ws aN.s⟩->step (bz P gl) gl i aN bE):
  pk P gl i st ⟨U st.aP,st.bI,apps E.ws st.s⟩ E:=by
 refine⟨λt aC _=>h1 _ t aC,λt _=>rfl,rfl,ah,axu,tj,λh=>axu,mv,λaN bE aj _ aW hf=>mu aN bE aj aW ?_⟩;have:iz i E aN ⟨U st.aP,st.bI,apps E.ws st.s⟩=⟨U aN.aP,aN.bI,apps E.ws aN.s⟩:=by
  refine tm (λt=> ?_) (λt=>axv) rfl;grind
 simp_all
theorem ag3{d sz:Nat}{xs:List O}:kS P gl (.q4 d sz xs):=by
 intro st K h;obtain⟨aE,h⟩:=h;refine⟨_,{len:=some st.s.length,ws:=[.n (.box (xs.map λx=>cellsOf (gJ (aK gl st x))).flatten)]},h,.nP (E:={len:=some st.s.length,ws:=[.n (.box (xs.map λx=>cellsOf (gJ (aK gl st x))).flatten)]}) rfl ax0 rfl rfl rfl ⟨axt,axt,λn az=>axu⟩ ?_ λaN bE aW bQ au=> ?_,?_⟩
 .grind[cJ.at]
 .have aH:=bQ.len _ rfl;have hm:(xs.map λx=>cellsOf (gJ (aK gl aN x)))=xs.map λx=>cellsOf (gJ (aK gl st x)):=by
   refine aB' λx ak=> ?_;rw[i1 (gl:=gl) aW (x:=x) λt aC=>aBH.2 ⟨x,ak,aC⟩]
  simp only[step,hm,aH];exact⟨aE,au⟩
 .refine⟨axt,axt,λn az=>by grind[gk],rfl,axt,axt,ayg,ayg,axt⟩
theorem ag4{d t e:Nat}:kS P gl (.ak d t e):=by
 intro st K h;refine⟨_,{len:=some st.s.length,ws:=[.n (.hM t e [])]},h,.nP (E:={len:=some st.s.length,ws:=[.n (.hM t e [])]}) rfl ax0 rfl rfl rfl ⟨axt,axt,λn az=>axu⟩ ?_ λaN bE aW bQ au=> ?_,?_⟩
 .grind[cJ.at]
 .have aH:=bQ.len _ rfl;simp[step,aH];exact au
 .refine⟨axt,axt,λn az=>by grind[gk],rfl,axt,axt,ayg,ayg,axt⟩
theorem ag5{d:Nat}{x:O}:kS P gl (.rg d x):=by
 intro st K h;simp[step]at h;split at h
 .rename_i aj;refine⟨_,{len:=some st.s.length,ws:=[.n (.hZ none)]},h,.nP (E:={len:=some st.s.length,ws:=[.n (.hZ none)]}) rfl ax0 rfl rfl rfl ⟨axt,axt,λn az=>axu⟩ ?_ λaN bE aW bQ au=> ?_,?_⟩
  .grind[cJ.at]
  .have aH:=bQ.len _ rfl;simp[step,aH,i1 (gl:=gl) aW (x:=x) (λt aC=>aC),aj];exact au
  .simp[gk,aj];refine⟨axt,axt,λn az=>axs,rfl,axt,axt,axt,axt,axt⟩
 .rename_i i aj;obtain⟨aE,h⟩:=h;have ⟨es,aD⟩:∃es,st.s.getD i .dead=.map es:=axv;refine⟨_,{ro:=[(i,.map es)],len:=some st.s.length,ws:=[.n (.hZ (some i))]},h,.nP (E:={ro:=[(i,.map es)],len:=some st.s.length,ws:=[.n (.hZ (some i))]}) rfl ax0 rfl rfl rfl ⟨axt,?_,λn az=>axu⟩ ?_ λaN bE aW bQ au=> ?_,?_⟩
  .grind
  .grind[cJ.at]
  .have aH:=bQ.len _ rfl;have:=mY (bQ.ro _ (az9.2 rfl));simp only[step,aH,i1 (gl:=gl) aW (x:=x) (λt aC=>aC),aj,this];exact⟨rfl,au⟩
  .simp[gk,aj];refine⟨axt,?_,λn az=>axs,rfl,axt,axt,axt,axt,axt⟩;simp
 .exact h.elim
theorem ag6{d:Nat}{x:O}:kS P gl (.k7 d x):=by
 intro st K h;simp only[step]at h;split at h
 .rename_i j aj;split at h
  .rename_i aD;refine⟨_,{ro:=[(j,.hZ none)]},h,.nP (E:={ro:=[(j,.hZ none)]}) rfl (λ_=>⟨rfl,rfl⟩) rfl rfl rfl ⟨axt,?_,axt⟩ axt λaN bE aW bQ au=> ?_,?_⟩
   .grind
   .have:=mY (bQ.ro _ (az9.2 rfl));simp only[step,i1 (gl:=gl) aW (x:=x) (λt aC=>aC),aj,this];exact au
   .simp only[gk,aj,aD];refine⟨axt,?_,axt,rfl,axt,axt,axt,axt,axt⟩;simp
  .rename_i i aD;split at h
   .rename_i cK;refine⟨_,{ro:=[(j,.hZ (some i)),(i,.map [])]},h,.nP (E:={ro:=[(j,.hZ (some i)),(i,.map [])]}) rfl (λ_=>⟨rfl,rfl⟩) rfl rfl rfl ⟨axt,?_,axt⟩ axt λaN bE aW bQ au=> ?_,?_⟩
    .grind
    .have h1:=mY (bQ.ro (j,.hZ (some i)) axt);have h2:=mY (bQ.ro (i,.map []) axt);simp only[step,i1 (gl:=gl) aW (x:=x) (λt aC=>aC),aj,h1,h2];exact au
    .simp only[gk,aj,aD];refine⟨axt,?_,axt,rfl,axt,axt,axt,axt,axt⟩;simp
   .exact h.elim
  .exact h.elim
 .exact h.elim
theorem at7{f:Nat->ag}{d:Option Nat}{v:ag}{t:Nat}:(match d with|some k=>cW f k v|none=>f) t=if d=some t then v else f t:=by
 cases d with
 |none=>simp
 |some k=>
  grind[df]
theorem Ex(aP:Nat->ag)(bI:Nat->Option (List ag))(s:aV)(d:Option Nat)(v:ag):(af.mk aP bI s).dA d v=⟨λt=>if d=some t then v else aP t,bI,s⟩:=by
 cases d with
 |none=>simp[af.dA]
 |some k=>
  simp[af.dA,af.set,af.mk.injEq,aBO];grind[df]
theorem pk.IZ{i:I}{d:Option Nat}{v:ag}{E:h'}{st:af}(wM:i.rs=true)(mv:i.ws=false->E.ws=[]/\E.len=none)(hw:i.hw=d.toList)(aq:i.gI=[])(au:E.k=[])(ah:iO E st.s)(tj:∀u,u∈E.ws->u.at E)
  (mu:∀(aN:af) (bE:af->Prop),(∀t,t∈i.rd->aN.aP t=st.aP t)->iO E aN.s->bE ({aN with s:=apps E.ws aN.s}.dA d v)->step (bz P gl) gl i aN bE):
  pk P gl i st ({st with s:=apps E.ws st.s}.dA d v) E:=by
 rw[Ex];refine .tp (U:=λf t=>if d=some t then v else f t) wM mv aq au ?_ ?_ ah tj λaN bE aj aW hf=>mu aN bE aj aW ?_;all_goals grind[Ex]
theorem ag7{d:Option Nat}{x:O}{z:List ag}:kS P gl (.n8 d x z):=by
 have hw:(I.n8 d x z).hw=d.toList:=by simp[I.hw,I.dst]
 intro st K h;simp[step]at h;split at h
 .rename_i i off len cap sz aj;split at h
  .rename_i cs aD;obtain⟨aE,h⟩:=h;refine⟨_,{ro:=[(i,.box cs)],ws:=[.o i (.box (putCells cs off (List.replicate len z).flatten))]},h,.IZ (E:={ro:=[(i,.box cs)],ws:=[.o i (.box (putCells cs off (List.replicate len z).flatten))]}) rfl ax0 hw rfl rfl ⟨axt,?_,axt⟩ ?_ λaN bE aW bQ au=> ?_,?_⟩
   .grind
   .intro u hu;simp at hu;subst hu;exact⟨_,az9.2 rfl,rfl⟩
   .have:=mY (bQ.ro _ (az9.2 rfl));simp only[step,i1 (gl:=gl) aW (x:=x) (λt aC=>aC),aj,this];exact⟨aE,au⟩
   .simp[gk,aj];refine⟨axt,?_,axt,rfl,axt,?_,axt,axt,axt⟩;all_goals simp
  .exact h.elim
 .rename_i v cB;split at h
  .rename_i sz aj;refine⟨_,{},h,.IZ (E:={}) rfl axt hw rfl rfl ⟨axt,axt,axt⟩ axt λaN bE aW bQ au=> ?_,?_⟩
   .simp[step,i1 (gl:=gl) aW (x:=x) (λt aC=>aC),aj];exact au
   grind[gk,yP]
  .exact h.elim
def tq:List Nat->List b3->List cJ
 |[],l=>l.map .n
 |_,[]=>[]
 |i::ids,o::l=>.o i o::tq ids l
theorem Po:∀{l:List b3} {s:aV},apps (l.map .n) s=s++l
 |[],s=>by simp[apps]
 |o::l,s=>by simp[aAh,apps,cJ.app];rw[Po];simp
theorem I0:∀{ids:List Nat} {l:List b3} {s:aV},ids.length<=l.length->apps (tq ids l) s=merge s ids l
 |[],l,s,_=>by
  grind[tq,Po,merge]
 |_::_,[],_,h=>axv
 |i::ids,o::l,s,h=>by
  simp[tq,apps,cJ.app,merge];exact I0 (by simpa using h)
theorem I1:∀{ids:List Nat} {l:List b3} {u:cJ},u∈tq ids l->(∃i ob,u=.o i ob/\∃k:Nat,ids[k]?=some i/\l[k]?=some ob)\/∃ob,u=.n ob
 |[],l,u,h=>by
  grind[tq]
 |_::_,[],u,h=>by grind[tq]
 |i::ids,o::l,u,h=>by
  simp[tq,azY]at h;rcases h with rfl|h
  .exact .inl ⟨i,o,rfl,0,axt,axt⟩
  .rcases I1 h with⟨j,ob,rfl,k,h1,h2⟩|h
   .exact .inl ⟨j,ob,rfl,k+1,by simpa using h1,by simpa using h2⟩
   .exact .inr h
theorem ag8{ids:List Nat}(h:nodupB ids=true){i k k':Nat}(h1:ids[k]?=some i)(h2:ids[k']?=some i):k=k':=by
 rw[<-A7 h h1,<-A7 h h2]
theorem ag9{ids:List Nat}{s:aV}{l:List b3}{i k:Nat}{ob:b3}(aH:ids.length<=l.length)(az:nodupB ids=true)(hs:∀j,j∈ids->j<s.length)(h1:ids[k]?=some i)(h2:l[k]?=some ob):
  (merge s ids l).getD i .dead=ob:=by
 have hi:=hs i (aAe h1);have aB:i<(merge s ids l).length:=by grind[H0]
 rcases H2 aH az hs (azQ aB)with⟨k',av,aZ⟩|⟨av,_⟩|⟨av,_⟩
 all_goals grind[ag8]
theorem I2(s:aV):∀(n:Nat) (todo acc:List Nat) (i:Nat),i∈acc->i∈reach s n todo acc
 |0,_,acc,i,h=>by grind[reach]
 |_+1,[],acc,i,h=>by grind[reach]
 |n+1,j::todo,acc,i,h=>by
  simp[reach];cases dk j acc with
  |true=>exact I2 s n _ _ i h
  |false=>exact I2 s n _ _ i (az3 _ h)
theorem I3{s s2:aV}:∀(n:Nat) (todo acc:List Nat),(∀i,i∈reach s n todo acc->s2.getD i .dead=s.getD i .dead)->reach s2 n todo acc=reach s n todo acc
 |0,_,acc,h=>rfl
 |_+1,[],acc,h=>rfl
 |n+1,j::todo,acc,h=>by
  simp[reach]at h⊢;cases aL:dk j acc with
  |true=>
   rw[aL]at h;exact I3 n _ _ h
  |false=>
   rw[aL]at h;have:=h j (I2 s n _ _ j axt);rw[this];exact I3 n _ _ h
theorem ag'{f:Nat}{vs:List ag}{s:aV}{K:ag->aV->Prop}(h:kG (bz P gl) f vs s K):
  ∃r s' ws,K r s'/\s'=apps ws s/\
   (∀q,q∈(reach s (s.length+s.length+8) (vs.flatMap (refs depth)) []).map (λi=>(i,s.getD i .dead))->s[q.1]?=some q.2)/\
   (∀i ob,cJ.o i ob∈ws->i∈reach s (s.length+s.length+8) (vs.flatMap (refs depth)) []/\s'.getD i .dead=ob)/\
   (∀i off v,cJ.c i off v∉ws)/\
   ∀(s2:aV) (bE:ag->aV->Prop),s2.length=s.length->(∀i,i∈reach s (s.length+s.length+8) (vs.flatMap (refs depth)) []->s2.getD i .dead=s.getD i .dead)->bE r (apps ws s2)->kG (bz P gl) f vs s2 bE:=by
 obtain⟨aE,r,s',hv,hlen,ao⟩:=h;have og:=aE;simp at og;obtain⟨⟨⟨g1,g2⟩,g3⟩,g4⟩:=og;have aB:∀i,i∈reach s (s.length+s.length+8) (vs.flatMap (refs depth)) []->i<s.length:=by
  simp_all[G1]
 have aH:=azW hlen;refine⟨_,_,tq (reach s (s.length+s.length+8) (vs.flatMap (refs depth)) []) (s'.map (b3.ren (back (reach s (s.length+s.length+8) (vs.flatMap (refs depth)) []) s.length))),ao,(I0 axu).symm,?_,?_,?_,?_⟩
 .grind
 .grind[I1,ag9]
 .grind[I1]
 .intro s2 bE dW rk hf;have aw:=I3 (s.length+s.length+8) (vs.flatMap (refs depth)) [] rk;have hm:(reach s (s.length+s.length+8) (vs.flatMap (refs depth)) []).map (λi=>(s2.getD i .dead).ren λi=>k8 i (reach s (s.length+s.length+8) (vs.flatMap (refs depth)) []))=(reach s (s.length+s.length+8) (vs.flatMap (refs depth)) []).map (λi=>(s.getD i .dead).ren λi=>k8 i (reach s (s.length+s.length+8) (vs.flatMap (refs depth)) [])):=axu;have ay:closed s2 (reach s (s.length+s.length+8) (vs.flatMap (refs depth)) []) vs=closed s (reach s (s.length+s.length+8) (vs.flatMap (refs depth)) []) vs:=by
   unfold closed;grind
  unfold kG;simp only[dW,aw,hm,ay];refine⟨?_,r,s',hv,hlen,?_⟩;all_goals simp_all[I0]
def aAr:=@List.mem_cons_self
theorem aha{st aN:af}{x:O}(h:aK gl aN x=aK gl st x):jC gl aN x=jC gl st x:=by
 unfold jC;grind
theorem Pp{d:Option Nat}{f:O}{args:List O}{st:af}{K:af->Prop}(s6:Nat)(vs:List ag)(h:kG (bz P gl) s6 vs st.s λr s'=>K ({st with s:=s'}.dA d r))
  (ev:∀(aN:af) (bE:af->Prop),(∀t,t∈(I.dH d f args).rd->aN.aP t=st.aP t)->step (bz P gl) gl (.dH d f args) aN bE=kG (bz P gl) s6 vs aN.s λr s'=>bE ({aN with s:=s'}.dA d r))
  (I4:∀aU,gk gl (.dH d f args) st aU=Dn st aU vs):∃aU E,K aU/\pk P gl (.dH d f args) st aU E/\j1 E (gk gl (.dH d f args) st aU):=by
 obtain⟨r,s',ws,ao,rfl,wL,ahb,aua,Ey⟩:=ag' h;refine⟨_,{ro:=(reach st.s (st.s.length+st.s.length+8) (vs.flatMap (refs depth)) []).map (λi=>(i,st.s.getD i .dead)),len:=some st.s.length,ws:=ws},ao,
  .IZ (E:={ro:=(reach st.s (st.s.length+st.s.length+8) (vs.flatMap (refs depth)) []).map (λi=>(i,st.s.getD i .dead)),len:=some st.s.length,ws:=ws}) rfl ax0 (by simp[I.hw,I.dst]) rfl rfl ⟨axt,wL,λn az=>axv⟩ ?_ λaN bE aW bQ au=> ?_,?_⟩
 .intro u hu;cases u with
  |c i off v=>grind
  |o i ob=>exact⟨(i,st.s.getD i .dead),aAn.2 ⟨i,(ahb i ob hu).1,rfl⟩,rfl⟩
  |n ob=>simp[cJ.at]
 .rw[ev aN bE aW];refine Ey aN.s _ (bQ.len _ rfl) (λi hi=> ?_) au;exact mY (bQ.ro (i,st.s.getD i .dead) (aAn.2 ⟨i,hi,rfl⟩))
 .rw[I4];unfold Dn;have hs:(({st with s:=apps ws st.s}:af).dA d r).s=apps ws st.s:=by rw[Ex]
  refine⟨axt,?_,λn az=>axs,rfl,?_,?_,axt,axt,axt⟩;all_goals grind
theorem ahc{d:Option Nat}{f:O}{args:List O}:kS P gl (.dH d f args):=by
 intro st K h;have em:∀{aN:af},(∀t,t∈(I.dH d f args).rd->aN.aP t=st.aP t)->aK gl aN f=aK gl st f/\args.map (jC gl aN)=args.map (jC gl st):=by
  intro aN e;refine⟨i1 (gl:=gl) e (λt aC=>az3 _ aC),aB' λx ak=>aha (i1 (gl:=gl) e (λt aC=>aAf _ (aBH.2 ⟨x,ak,aC⟩)))⟩
 simp only[step]at h;split at h
 .rename_i s6 aj;exact Pp s6 _ h (λaN bE e=>by simp[step,(em e).1,(em e).2,aj]) (λaU=>by grind[gk])
 .rename_i s6 a c aj;exact Pp s6 _ h (λaN bE e=>by simp[step,(em e).1,(em e).2,aj]) (λaU=>by grind[gk])
 .exact h.elim
def hU(st:af)(v:ag):List (Nat×b3):=match v with
 |.aS i _ _ _ _=>[(i,st.s.getD i .dead)]
 |_=>[]
theorem yQ{st aN:af}{v:ag}{sz:Nat}(h:∀q,q∈hU st v->aN.s[q.1]?=some q.2):p5 aN v sz=p5 st v sz:=by
 cases v<;>simp[p5];simp_all[hU]
theorem Pq{st aN:af}{v:ag}(h:∀q,q∈hU st v->aN.s[q.1]?=some q.2):p6 aN v=p6 st v:=by
 cases v<;>simp[p6];simp_all[hU]
theorem Bt{st:af}{v:ag}{sz:Nat}{p:List ag×Nat}(h:p5 st v sz=some p):∀q,q∈hU st v->st.s[q.1]?=some q.2:=by
 intro q aT;cases v<;>simp[hU,aAi,az9]at aT;grind[p5]
theorem Pr{st:af}{v:ag}{p:Nat×List D}(h:p6 st v=some p):∀q,q∈hU st v->st.s[q.1]?=some q.2:=by
 intro q aT;cases v<;>simp[hU,aAi,az9]at aT;grind[p6]
theorem Bu{st:af}{v:ag}{q:Nat×b3}(h:q∈hU st v):(q.1,0,big)∈p8 v:=by
 cases v<;>simp[hU,aAi,az9]at h;grind[p8]
theorem I5{i:I}{nw rw:Bool}{d s:Nat}{x:O}{sz b2:Nat}(nO:i.rs=true)(rR:i.ws=true)(aq:i.gI=[])(hw:i.hw=[d,s])(jv:i.rd=s::x.slots)
  (ev:∀(st:af) (K:af->Prop),step (bz P gl) gl i st K=hz (bz P gl) gl nw rw d s x sz b2 st K)
  (I4:∀st aU,gk gl i st aU=match st.aP s with
   |.aS i _ _ _ _=>{r:=p8 (aK gl st x),w:=[(i,0,big)],a:=some st.s.length}
   |_=>{r:=p8 (aK gl st x),a:=some st.s.length}):kS P gl i:=by
 intro st K h;rw[ev]at h;have h1:∀{v:ag} (f:Nat->ag) t,t∉i.hw->cW f d v t=f t:=by
  intro v f t aC;simp_all[df]
 have h2:∀{v:ag} (f f2:Nat->ag) t,t∈i.hw->(∀t,t∈i.rd->f2 t=f t)->cW f2 d v t=cW f d v t:=by
  intro v f f2 t aC hh;rw[hw]at aC;simp[df];grind
 have bN:∀{v:ag} (f:Nat->ag) t,t∉i.hw->cW (cW f s .undef) d v t=f t:=by
  intro v f t aC;rw[hw]at aC;simp at aC;simp[df,aC.1,aC.2,az4]
 have cz:∀{v:ag} (f f2:Nat->ag) t,t∈i.hw->(∀t,t∈i.rd->f2 t=f t)->cW (cW f2 s .undef) d v t=cW (cW f s .undef) d v t:=by
  intro v f f2 t aC _;rw[hw]at aC;simp[df];grind
 have es:∀{aN:af},(∀t,t∈i.rd->aN.aP t=st.aP t)->aN.aP s=st.aP s/\aK gl aN x=aK gl st x:=λe=>⟨e s axv,i1 (gl:=gl) e (λt aC=>axv)⟩;have mv:∀{E:h'},i.ws=false->E.ws=[]/\E.len=none:=λh=>axu;unfold hz at h;split at h
 .rename_i ej l aj;have tr:∀aU,gk gl i st aU={r:=p8 (aK gl st x),a:=some st.s.length}:=λaU=>axv;have wO:∀aU,j1 {ro:=hU st (aK gl st x)} (gk gl i st aU):=by
   intro aU;rw[tr];exact⟨axt,λq aT=>.inl (az3 _ (Bu aT)),axt,rfl,axt,axt,axt,axt,axt⟩
  cases yR:nw&&l.isEmpty with
  |true=>
   rw[yR]at h;simp[azL]at h;split at h
   .rename_i cs aD;refine⟨_,{ro:=hU st (aK gl st x)},h,.tp (U:=λf=>cW f d (.own sz [])) (E:={ro:=hU st (aK gl st x)}) nO mv aq rfl h1 h2 ⟨axt,Bt aD,axt⟩ axt λaN bE aW bQ au=> ?_,wO _⟩;rw[ev];unfold hz;simp[(es aW).1,(es aW).2,aj,yR,yQ bQ.ro,aD,azL];exact au
   .rename_i cs k cB aD;cases rw with
    |true=>
     simp at h;split at h;rotate_left
     .exact h.elim
     rename_i gA cK;obtain⟨aE,h⟩:=h;refine⟨_,{ro:=hU st (aK gl st x)},h,.tp (U:=λf=>cW f d (.raw sz k gA)) (E:={ro:=hU st (aK gl st x)}) nO mv aq rfl h1 h2 ⟨axt,Bt aD,axt⟩ axt λaN bE aW bQ au=> ?_,wO _⟩;rw[ev];unfold hz;simp[(es aW).1,(es aW).2,aj,yR,yQ bQ.ro,aD,azL,cK];cases k with
     |zero=>grind
     |succ k=>exact⟨aE,au⟩
    |false=>
     simp at h;obtain⟨aE,h⟩:=h;refine⟨_,{ro:=hU st (aK gl st x),len:=some st.s.length,ws:=[.n (.box cs)]},h,.tp (U:=λf=>cW f d (.aS st.s.length 0 k k sz)) (E:={ro:=hU st (aK gl st x),len:=some st.s.length,ws:=[.n (.box cs)]}) nO mv aq rfl h1 h2 ⟨axt,Bt aD,λn az=>axv⟩ ?_ λaN bE aW bQ au=> ?_,?_⟩
     .grind[cJ.at]
     .rw[ev];unfold hz;simp[(es aW).1,(es aW).2,aj,yR,yQ bQ.ro,aD,azL,bQ.len _ rfl];cases k with
      |zero=>grind
      |succ k=>exact⟨aE,au⟩
     .rw[tr];exact⟨axt,λq aT=>.inl (az3 _ (Bu aT)),λn az=>axs,rfl,axt,axt,axt,axt,axt⟩
   .exact h.elim
  |false=>
   rw[yR]at h;simp[az7]at h;split at h
   .rename_i dw l2 aD;obtain⟨aE,h⟩:=h;refine⟨_,{ro:=hU st (aK gl st x)},h,.tp (U:=λf=>cW (cW f s .undef) d (.own sz (l++l2))) (E:={ro:=hU st (aK gl st x)}) nO mv aq rfl bN cz ⟨axt,Pr aD,axt⟩ axt λaN bE aW bQ au=> ?_,wO _⟩;rw[ev];unfold hz;simp[(es aW).1,(es aW).2,aj,yR,Pq bQ.ro,aD,az7];exact⟨aE,au⟩
   .exact h.elim
 .rename_i ej n cs aj;have tr:∀aU,gk gl i st aU={r:=p8 (aK gl st x),a:=some st.s.length}:=λaU=>axv;split at h
  .rename_i us k aD;split at h
   .rename_i gA cK;obtain⟨aE,h⟩:=h;refine⟨_,{ro:=hU st (aK gl st x)},h,.tp (U:=λf=>cW (cW f s .undef) d (.raw sz (n+k) (cs++gA))) (E:={ro:=hU st (aK gl st x)}) nO mv aq rfl bN cz ⟨axt,Bt aD,axt⟩ axt λaN bE aW bQ au=> ?_,?_⟩
    .rw[ev];unfold hz;simp[(es aW).1,(es aW).2,aj,yQ bQ.ro,aD,cK];exact⟨aE,au⟩
    .rw[tr];exact⟨axt,λq aT=>.inl (az3 _ (Bu aT)),axt,rfl,axt,axt,axt,axt,axt⟩
   .exact h.elim
  .exact h.elim
 .rename_i j off len cap ej aj;have tr:∀aU,gk gl i st aU={r:=p8 (aK gl st x),w:=[(j,0,big)],a:=some st.s.length}:=λaU=>axv;split at h
  .rename_i cs us k cK aD;obtain⟨aE,h⟩:=h;have wL:∀q,q∈(j,b3.box cs)::hU st (aK gl st x)->st.s[q.1]?=some q.2:=by
    intro q aT;rcases azY.1 aT with rfl|aT
    all_goals grind[Bt]
   have uv:∀q,q∈(j,b3.box cs)::hU st (aK gl st x)->(q.1,0,big)∈p8 (aK gl st x)++[(j,0,big)]:=by
    intro q aT;rcases azY.1 aT with rfl|aT
    all_goals grind[Bu]
   cases hR:Nat.ble (len+k) cap with
   |true=>
    rw[hR]at h;obtain⟨ff,h⟩:=h;refine⟨_,{ro:=(j,.box cs)::hU st (aK gl st x),ws:=[.o j (.box (putCells cs (off+len*sz) us))]},h,.tp (U:=λf=>cW f d (.aS j off (len+k) cap sz)) (E:={ro:=(j,.box cs)::hU st (aK gl st x),ws:=[.o j (.box (putCells cs (off+len*sz) us))]}) nO mv aq rfl h1 h2 ⟨axt,wL,axt⟩ ?_ λaN bE aW bQ au=> ?_,?_⟩
    .intro u hu;simp[az9]at hu;subst hu;exact⟨_,aAr,rfl⟩
    .rw[ev];unfold hz;have f1:=mY (bQ.ro _ aAr);simp only at f1;simp only[(es aW).1,(es aW).2,aj,yQ (λq aT=>bQ.ro q (aAG _ aT)),aD,f1,hR];exact⟨aE,ff,au⟩
    .rw[tr];refine⟨axt,λq aT=>.inl (uv q aT),axt,rfl,axt,?_,axt,axt,axt⟩;simp
   |false=>
    rw[hR]at h;obtain⟨ff,h⟩:=h;refine⟨_,{ro:=(j,.box cs)::hU st (aK gl st x),len:=some st.s.length,ws:=[.o j .dead,.n (.box (cs.take (len*sz)++us))]},h,.tp (U:=λf=>cW f d (.aS st.s.length 0 (len+k) (len+k) sz)) (E:={ro:=(j,.box cs)::hU st (aK gl st x),len:=some st.s.length,ws:=[.o j .dead,.n (.box (cs.take (len*sz)++us))]}) nO mv aq rfl h1 h2 ⟨axt,wL,λn az=>axv⟩ ?_ λaN bE aW bQ au=> ?_,?_⟩
    .intro u hu;simp only[azY,aAi,aAR]at hu;grind[List.mem_cons_self,cJ.at]
    .rw[ev];unfold hz;have f1:=mY (bQ.ro _ aAr);simp only at f1;simp only[(es aW).1,(es aW).2,aj,yQ (λq aT=>bQ.ro q (aAG _ aT)),aD,f1,hR,bQ.len _ rfl];exact⟨aE,ff,au⟩
    .rw[tr];refine⟨axt,λq aT=>.inl (uv q aT),λn az=>axs,rfl,axt,?_,axt,axt,axt⟩;simp
  .exact h.elim
 .rename_i ej aj;have tr:∀aU,gk gl i st aU={r:=p8 (aK gl st x),a:=some st.s.length}:=λaU=>axv;split at h
  .rename_i dw l2 aD;obtain⟨aE,h⟩:=h;refine⟨_,{ro:=hU st (aK gl st x)},h,.tp (U:=λf=>cW (cW f s .undef) d (ij sz l2)) (E:={ro:=hU st (aK gl st x)}) nO mv aq rfl bN cz ⟨axt,Pr aD,axt⟩ axt λaN bE aW bQ au=> ?_,?_⟩
   .rw[ev];unfold hz;simp only[(es aW).1,(es aW).2,aj,Pq bQ.ro,aD];exact⟨aE,au⟩
   .rw[tr];exact⟨axt,λq aT=>.inl (az3 _ (Bu aT)),axt,rfl,axt,axt,axt,axt,axt⟩
  .exact h.elim
 .exact h.elim
theorem ahd{d s:Nat}{x:O}{sz b2:Nat}:kS P gl (.ap d s x sz b2):=I5 rfl rfl rfl rfl rfl (λ_ _=>rfl) (λ_ _=>rfl)
theorem ahe{d s:Nat}{x:O}{sz b2:Nat}:kS P gl (.mQ d s x sz b2):=I5 rfl rfl rfl rfl rfl (λ_ _=>rfl) (λ_ _=>rfl)
theorem ahf{d s:Nat}{x:O}{sz b2:Nat}:kS P gl (.mR d s x sz b2):=I5 rfl rfl rfl rfl rfl (λ_ _=>rfl) (λ_ _=>rfl)
theorem Ps{i:I}(h2:ra i=false)(br:hO i=false):kS P gl i:=by
 cases i;case eZ=>exact agX
 case aQ=>grind[ra]
 case mS=>grind[ra]
 case oW=>grind[ra]
 case ls=>exact agY
 case aH=>exact agV
 case aC=>exact agW
 case hs=>exact agZ
 case aI=>exact ag0
 case n7=>exact ag2
 case dH=>exact ahc
 case ap=>exact ahd
 case mQ=>exact ahe
 case mR=>exact ahf
 case q4=>exact ag3
 case ak=>exact ag4
 case rg=>exact ag5
 case k7=>exact ag6
 case n8=>exact ag7
 all_goals first
  |exact agT h2 rfl rfl (λ_ _=>rfl)
  |grind[hO]
theorem ayF(h:p:=by grind[I.hw,I.dst]):p:=h
theorem Pt{i:I}{t:Nat}(h:t∈i.hw):i.dst=some t\/t∈i.rd:=by
 rcases aAu.1 h with h|h
 all_goals grind[I.rd]
theorem Ez{i:I}{t:Nat}(h:t∈i.kl):t∈i.rd:=by
 cases i<;>simp[I.kl,aAi]at h
 .exact h
 .exact aAf _ h
 .exact aAf _ h
 .exact h
theorem ahg{i:I}{t:Nat}(h:t∈i.gI):t∈i.oa:=by
 cases i<;>simp[I.gI,I.oa]at h⊢ <;>exact h
theorem ahh{i:I}(h:i.ws=true):i.rs=true:=by
 cases i<;>simp[I.ws,I.rs]at h⊢
theorem Pu{i:I}{d:Nat}(h:i.dst=some d):d∈i.hw:=by
 simp_all[I.hw]
theorem uP{g:cb}{t:Nat}(h:t∈g.i.rd):t∈g.rd:=by grind[cb.rd]
structure pn(P:Program)(gl:Nat->List D)(id:Nat)(g:cb)(st aU:af)(E:h'):Prop where
 aP:∀t,t∉g.i.hw->t∉E.k->aU.aP t=st.aP t
 bI:∀t,t∉g.i.gI->aU.bI t=st.bI t
 s:aU.s=apps E.ws st.s
 ah:iO E st.s
 k:∀t,t∈E.k->t∈g.i.kl
 at_:∀u,u∈E.ws->u.at E
 r0:g.i.rs=false->E.rd=[]/\E.ro=[]/\E.len=none
 w0:g.i.ws=false->E.ws=[]/\E.len=none
 mu:∀(aN:af) (bE:af->Prop),(∀t,t∈g.rd->aN.aP t=st.aP t)->(∀t,t∈g.i.oa->aN.bI t=st.bI t)->iO E aN.s->bE (iz g.i E aN aU)->ke (bz P gl) gl id g aN bE
theorem I6(st:af)(d:Option Nat)(v:ag)(t:Nat):(st.dA d v).aP t=if d=some t then v else st.aP t:=by
 obtain⟨a,b,c⟩:=st;rw[Ex]
theorem Pv(st:af)(d:Option Nat)(v:ag):(st.dA d v).bI=st.bI:=by cases d<;>rfl
theorem Pw(st:af)(d:Option Nat)(v:ag):(st.dA d v).s=st.s:=by cases d<;>rfl
theorem ahi{id:Nat}{g:cb}{st aU:af}{E:h'}(h:pn P gl id g st aU E):iz g.i E st aU=aU:=by
 refine tm (λt=> ?_) (λt=> ?_) h.s.symm
 .split
  .rfl
  .rename_i az;simp at az;exact(h.aP t az.1 az.2).symm
 grind[pn.bI]
theorem pn.mono{id:Nat}{g:cb}{st aU:af}{E:h'}(h:pn P gl id g st aU E){K:af->Prop}(au:K aU):ke (bz P gl) gl id g st K:=
 h.mu st K (λ_ _=>rfl) (λ_ _=>rfl) h.ah (by grind[ahi])
theorem Px{id:Nat}{g:cb}{st:af}(br:hO g.i=false)(Ey:∀(aN:af) (bE:af->Prop),(∀t,t∈g.rd->aN.aP t=st.aP t)->bE (aN.dA g.i.dst (.tuple []))->step1 (bz P gl) gl g aN bE):
  pn P gl id g st (st.dA g.i.dst (.tuple [])) {}:=by
 refine⟨λt aC _=> ?_,λt _=>by rw[Pv],by rw[Pw];rfl,⟨axt,axt,axt⟩,axt,axt,λ_=>⟨rfl,rfl,rfl⟩,λ_=>⟨rfl,rfl⟩,λaN bE aj aD _ au=> ?_⟩
 .rw[I6,aAc];grind[Pu]
 .unfold ke;rw[br];refine Ey aN bE aj ?_;have:iz g.i {} aN (st.dA g.i.dst (.tuple []))=aN.dA g.i.dst (.tuple []):=by
   refine tm (λt=> ?_) (λt=> ?_) (by rw[Pw];rfl)
   .rw[I6,I6];by_cases h:g.i.dst=some t
    .grind[Pu]
    .grind[Pt,uP]
   simp_all[Pv,ahg]
  simp_all
theorem pk.Py{id:Nat}{g:cb}{st aU:af}{E:h'}(br:hO g.i=false)(h:pk P gl g.i st aU E)
  (Ey:∀(aN:af) (bE:af->Prop),(∀t,t∈g.rd->aN.aP t=st.aP t)->step (bz P gl) gl g.i aN bE->step1 (bz P gl) gl g aN bE):pn P gl id g st aU E:=by
 refine⟨h.aP,h.bI,h.s,h.ah,h.k,h.at_,h.r0,h.w0,λaN bE aj aD aW au=> ?_⟩;grind[ke,uP,mu]
theorem Pz{i:I}{st:af}{o:b3}{d:Nat}{v:Nat->ag}(h:jQ gl i st=some (o,d,v)):i.hw=[d]/\i.gI=[]/\i.rs=true/\i.ws=true/\i.dst=some d/\
  ∀aN:af,(∀t,t∈i.rd->aN.aP t=st.aP t)->jQ gl i aN=some (o,d,v):=by
 cases i<;>simp only[jQ,reduceCtorEq]at h;case br uQ z=>
  obtain⟨h1,h2,av⟩:=h;refine⟨ayF,rfl,rfl,rfl,by grind[I.dst],λaN _=>by grind[jQ]⟩
 case mm uQ=>
  obtain⟨h1,h2,av⟩:=h;refine⟨ayF,rfl,rfl,rfl,by grind[I.dst],λaN _=>by grind[jQ]⟩
 case aq uQ x n=>
  have a6:uQ=d:=axv;refine⟨ayF,rfl,rfl,rfl,by grind[I.dst],λaN e=> ?_⟩;simp[jQ,i1 (gl:=gl) e (x:=x) (λt aC=>aC)];exact h
 case mk uQ sz z n b2=>
  have a6:uQ=d:=axv;refine⟨ayF,rfl,rfl,rfl,by grind[I.dst],λaN e=> ?_⟩;simp[jQ,i1 (gl:=gl) e (x:=n) (λt aC=>aC)];exact h
theorem ahj{id:Nat}{g:cb}(h2:ra g.i=false){st:af}{K:af->Prop}(h:ke (bz P gl) gl id g st K):
  ∃aU E,K aU/\pn P gl id g st aU E/\j1 E (uh gl id g st aU):=by
 cases br:hO g.i with
 |true=>
  unfold ke at h;rw[br]at h;split at h
  .rename_i o d v aj aD;obtain⟨aE,h⟩:=h;have aB:id<st.s.length:=axu;obtain⟨bh,a2,a3,a4,a5,EA⟩:=Pz aD;have jv:g.rd=g.i.rd:=by grind[cb.rd]
   refine⟨_,{ro:=[(id,st.s.getD id .dead)],ws:=[.o id o]},h,⟨λt aC _=> ?_,λt _=>rfl,rfl,⟨axt,?_,axt⟩,axt,?_,λaw=>axu,λaw=>axu,λaN bE f1 f2 f3 au=> ?_⟩,?_⟩
   .simp_all[af.set,df]
   .simp_all
   .intro u hu;simp at hu;subst hu;exact⟨_,az9.2 rfl,rfl⟩
   .have fE:=(aAU.1 (f3.ro _ (az9.2 rfl))).1;unfold ke;rw[br];simp[azL,aj,EA aN (λt aC=>f1 t (uP aC))];refine⟨axu,?_⟩;have:iz g.i {ro:=[(id,st.s.getD id .dead)],ws:=[.o id o]} aN ({st with s:=st.s.set id o}.set d (v id))={aN with s:=aN.s.set id o}.set d (v id):=by
     refine tm (λt=> ?_) (λt=>by grind[af.set]) rfl;simp_all[af.set,df]
    simp_all
   .unfold uh;rw[br];refine⟨axt,?_,axt,rfl,axt,?_,axt,axt,axt⟩;all_goals simp
  .exact h.elim
 |false=>
  have I4:∀aU,uh gl id g st aU=x1 gl g st aU:=λaU=>by grind[uh]
  unfold ke at h;rw[br]at h;simp at h;unfold step1 at h;split at h
  .rename_i aj;obtain⟨aU,E,bN,cz,gM⟩:=Ps (P:=P) (gl:=gl) h2 br st K h;refine⟨aU,E,bN,cz.Py br λaN bE _ hs=> ?_,?_⟩;all_goals grind[step1,x1]
  .rename_i s want aj;have A3:∀{aN:af},(∀t,t∈g.rd->aN.aP t=st.aP t)->aN.aP s=st.aP s:=λe=>e s (by grind[cb.rd]);split at h
   .rename_i b aq;cases ay:cond want b (!b)with
    |true=>
     rw[ay]at h;simp at h;obtain⟨aU,E,bN,cz,gM⟩:=Ps (P:=P) (gl:=gl) h2 br st K h;refine⟨aU,E,bN,cz.Py br λaN bE e hs=> ?_,?_⟩;all_goals grind[step1,x1]
    |false=>
     rw[ay]at h;simp at h;refine⟨_,{},h,Px br λaN bE e hs=> ?_,?_⟩;all_goals grind[step1,x1,yP]
   .rename_i aq;refine⟨_,{},h,Px br λaN bE e hs=> ?_,?_⟩;all_goals grind[step1,x1,yP]
   .exact h.elim
structure T where
 id:Nat
 g:cb
 E:h'
def qA(P:Program)(gl:Nat->List D):List T->af->(af->Prop)->Prop
 |[],st,K=>K st
 |t::l,st,K=>∃aU,pn P gl t.id t.g st aU t.E/\qA P gl l aU K
structure uR(x y:T):Prop where
 h:xZ x.g y.g=true
 bN:∀t,t∈x.E.k->t∉y.g.rd/\t∉y.g.i.hw
 cz:∀t,t∈y.E.k->t∉x.g.rd/\t∉x.g.i.hw
 e:Ep x.E y.E
theorem rS{a b:List Nat}(h:p4 a b=true):∀t,t∈a->t∉b:=by
 intro t aC aq;have:=azX.1 h t aC;rw[pe.2 aq]at this;simp_all
theorem ahk{x y:T}{l:List T}{st:af}{K:af->Prop}(hi:uR x y)(h:qA P gl (x::y::l) st K):qA P gl (y::x::l) st K:=by
 obtain⟨s1,cY,s2,cU,aH⟩:=h;have eR:=hi.h;unfold xZ at eR;simp at eR;obtain⟨⟨⟨d1,d2⟩,d3⟩,d4⟩:=eR;have d1:=rS d1;have d2:=rS d2;have d3:=rS d3;have d4:=rS d4;have aub:=λt aC=>cY.aP t (λhw=>d1 t hw (az3 _ aC)) (λau=>(hi.bN t au).1 aC);have auc:=λt aC=>cY.bI t λhw=>d3 t hw (az3 _ aC);have PA:=by
  refine agO hi.e.Pb hi.e.Pc cY.at_ cY.ah ?_;rw[<-cY.s];exact cU.ah
 have aud:∀t,t∈x.g.i.hw\/t∈x.E.k->s2.aP t=s1.aP t:=by
  intro t aC;refine cU.aP t (λhw=> ?_) (λau=> ?_)
  .rcases aC with aC|aC
   .simp_all
   .exact(hi.bN t aC).2 hw
  .rcases aC with aC|aC
   .exact(hi.cz t au).2 aC
   .exact(hi.bN t aC).1 (uP (Ez (cU.k t au)))
 have aue:=λt aC=>cU.bI t λhw=>d3 t aC (aAf _ hw);have ahl:=by
  refine(O8 (λu hu v hv=>hi.e.ww u hu v hv) (λu hu=>O6 (cY.at_ u hu) cY.ah) (λv hv=>O6 (cU.at_ v hv) PA)).symm
 refine⟨iz y.g.i y.E st s2,⟨λt h1 h2=> ?_,λt h1=> ?_,rfl,PA,cU.k,cU.at_,cU.r0,cU.w0,λaN bE aj aD aW au=> ?_⟩,s2,⟨λt h1 h2=> ?_,λt h1=> ?_,?_,O' hi.e.Pa cY.ah,cY.k,cY.at_,cY.r0,cY.w0,λaN bE aj aD aW au=> ?_⟩,aH⟩
 .simp_all[iz]
 .simp_all[iz]
 .refine cU.mu aN bE (λt aC=>axu) (λt aC=>axu) aW ?_;have:iz y.g.i y.E aN (iz y.g.i y.E st s2)=iz y.g.i y.E aN s2:=by
   refine tm (λt=> ?_) (λt=> ?_) rfl
   .simp[iz];simp_all
   .simp[iz];simp_all
  simp_all
 .simp only[iz];split
  .rfl
  .rename_i az;simp at az;rw[cU.aP t az.1 az.2,cY.aP t h1 h2]
 .grind[iz,pn.bI]
 .rw[cU.s,cY.s];exact ahl
 .refine cY.mu aN bE (λt aC=> ?_) (λt aC=> ?_) aW ?_
  .rw[aj t aC];have az:¬(t∈y.g.i.hw\/t∈y.E.k):=by
    rintro(hw|au)
    .simp_all
    .exact(hi.cz t au).1 aC
   simp[iz,az,az4]
  .rw[aD t aC];have az:t∉y.g.i.gI:=λhw=>d4 t hw aC;simp[iz,az,az4]
  grind[iz]
theorem I7{g:T}:∀{l1 l2:List T} {st:af} {K:af->Prop},(∀x,x∈l1->uR x g)->qA P gl (l1++g::l2) st K->qA P gl (g::(l1++l2)) st K
 |[],l2,st,K,_,h=>h
 |x::l1,l2,st,K,aH,h=>by
  obtain⟨s1,cY,h⟩:=h;have cG:=I7 (l1:=l1) (λy hy=>aH y (by simp[hy])) h;exact ahk (aH x axt) ⟨s1,cY,cG⟩
def mZ:List cb->Nat->List Nat
 |[],_=>[]
 |g::l,id=>id::mZ l (cond (hO g.i) (id+1) id)
def PB(x y:T):Prop:=∃en fk,j1 x.E en/\j1 y.E fk/\Aq x.g en y.g fk=true
theorem PC:∀{l:List cb} {dz:List (List Nat)} {acc:List (cb×iW)} {id:Nat} {st:af} {K:af->Prop} {ts:List T},(∀g,g∈l->ra g.i=false)->
  (∀(i:Nat) x en,acc[i]?=some (x,en)->∃t,ts[i]?=some t/\t.g=x/\j1 t.E en)->acc.length=ts.length->p9 (bz P gl) gl l dz acc id st K->
  ∃wP:List T,qA P gl wP st K/\wP.map (·.g)=l/\wP.map (·.id)=mZ l id/\∀(j:Nat) yS,wP[j]?=some yS->∀i,i∈dz.getD j []->∃rT,(ts++wP)[i]?=some rT/\PB rT yS
 |[],dz,acc,id,st,K,ts,_,_,_,h=>⟨[],h,rfl,rfl,axt⟩
 |g::l,dz,acc,id,st,K,ts,h2,br,hlen,h=>by
  obtain⟨aU,E,⟨ay,au⟩,bb,Bs⟩:=ahj (h2 g axt) h;obtain⟨wP,bN,cz,gM,nL⟩:=PC (ts:=ts++[⟨id,g,E⟩]) (λg aE=>h2 g axv) (by
   intro i x en hi;rcases aAv i acc.length with aH|aH
   .grind
   .rw[aAA aH]at hi;have qB:i-acc.length=0:=axv;rw[qB]at hi;obtain⟨rfl,rfl⟩:=hi;exact⟨⟨id,g,E⟩,axv,rfl,Bs⟩) axu au
  refine⟨⟨id,g,E⟩::wP,⟨aU,bb,bN⟩,axv,by grind[mZ],?_⟩;intro j yS aL i hi;cases j with
  |zero=>
   simp at aL;subst aL;have je:i∈dz.headD []:=by cases dz<;>first|grind|simp at hi
   have:=azX.1 ay i je;split at this
   .rename_i x en ak;obtain⟨t,t1,t2,t3⟩:=br i x en ak;have aB:=(aAU.1 t1).1;refine⟨t,axv,en,_,t3,Bs,?_⟩;simp_all
   simp_all
  |succ j=>
   have je:i∈dz.tail.getD j []:=axu;grind
end
section
variable {P:Program}{gl:Nat->List D}{n0 nt:Nat}{a:Act}{w w' w0:World}{G G' G0:bJ}{ρ ρ' ρ0:List Nat}{lam lam':Nat->Option Nat}{st aU:af}{K:af->Prop}{o:Oper}{Q:Exit->Act->World->Prop}
theorem bX.ahm{d id:Nat}{ob:Obj}{v:Value}{x:ag}{vo:b3}(h:bX gl w G ρ lam a.tmps st)(hid:ρ[id]?=some 0)(hw:ga w ob w')(a6:d<a.tmps.size)
  (bb:kj w' (fD w G (.obj id) 0) (ρ.set id (w.heap.size+1)) id w.heap.size vo) (ak:dc w' (fD w G (.obj id) 0) (ρ.set id (w.heap.size+1)) v x):
  bX gl w' (fD w G (.obj id) 0) (ρ.set id (w.heap.size+1)) lam (a.tmps.setIfInBounds d v) ({st with s:=st.s.set id vo}.set d x):=by
 have cM:∀i b:Nat,ρ[i]?=some (b+1)->(ρ.set id (w.heap.size+1))[i]?=some (b+1):=axv;have hlen:id<st.s.length:=by rw[<-h.ob.1];grind
 have h0:=hw.rel (L0:=.obj id) (n0:=0) h.lt h;refine bX.set (st:={st with s:=st.s.set id vo}) ⟨λt=> ?_,?_,h0.nb,⟨ayp,?_⟩,h0.eI,h0.lt⟩ a6 (.ck ak)
 .exact(h0.aP t).bR (da.refl _ _) cM (λ_ _ h=>h) (λb n h=>⟨rfl,h⟩)
 .intro t dY aC;obtain⟨b,h1,h2⟩:=h0.bI t dY aC;exact⟨b,h1,dJ.bR (da.refl _ _) cM (λb n h=>⟨rfl,h⟩) (λj b n h=>⟨rfl,h⟩) h2⟩
 .intro i b o aq o9;by_cases ql:id=i
  .grind
  .rw[aAm ql]at aq;rw[aAm ql]at o9;exact(h0.ob.2 i b o aq o9).bR (da.refl _ _) cM (λb n h=>⟨rfl,h⟩) (λj b n h=>⟨rfl,h⟩)
def yT(P:Program)(o:Oper)(a:Act)(w:World)(G:bJ)(ρ:List Nat)(ob:b3)(v:Nat->ag):Prop:=
 ∃(v0:Value) (obj:Obj) (w1:World),(execOp a.eval o).run P w=.ok (.value v0) w1/\ga w obj w1/\
  ∀(id:Nat) (ρ':List Nat),(∀i b:Nat,ρ[i]?=some (b+1)->ρ'[i]?=some (b+1))->ρ'[id]?=some (w.heap.size+1)->
   kj w1 (fD w G (.obj id) 0) ρ' id w.heap.size ob/\dc w1 (fD w G (.obj id) 0) ρ' v0 (v id)
theorem ahn{e:Nat}{z:List ag}(bu:o.op=.alloc e)(aQ:zeros P e=some z):yT P o a w G ρ (.box z) (λi=>.ptr i 0):=by
 obtain⟨i,v,h1,h2,av,aZ,bW⟩:=nG aQ;have aw:(execOp a.eval o).run P w=.ok (.value (.pointer (some ⟨w.heap.size,0,none⟩))) {w with heap:=w.heap.push (.cells v.cells e)}:=ayV;have hw:ga w (.cells ⟨v.cells.toList⟩ e) {w with heap:=w.heap.push (.cells v.cells e)}:=⟨rfl,rfl,rfl⟩;exact⟨_,_,_,aw,hw,λid ρ' cM hi=>⟨wg (LC:=.dx id) hw bW,.ptr _ _ _ hi⟩⟩
theorem aho{e n t1:Nat}{x:Operand}{bx:O}(p:bV n0 gl nt w G ρ lam a st)(bu:o.op=.box e x)(ak:bP P t1 x=some bx)
  (aE:(Nat.beq (cellsOf (gJ (aK gl st bx))).length n&&(cellsOf (gJ (aK gl st bx))).all (dU depth))=true):yT P o a w G ρ (.box (cellsOf (gJ (aK gl st bx)))) (λi=>.ptr i 0):=by
 simp only[azH]at aE;obtain⟨AG,kN⟩:=dC ak p.rel;have hA:=DK kN aE.2;have aw:(execOp a.eval o).run P w=.ok (.value (.pointer (some ⟨w.heap.size,0,none⟩))) {w with heap:=w.heap.push (.cells (a.eval x).cells e)}:=ayW;have hw:ga w (.cells ⟨(a.eval x).cells.toList⟩ e) {w with heap:=w.heap.push (.cells (a.eval x).cells e)}:=⟨rfl,rfl,rfl⟩;refine⟨_,_,_,aw,hw,λid ρ' cM hi=>⟨wg (LC:=.dx id) hw ?_,.ptr _ _ _ hi⟩⟩;exact(hA.keep (da.refl _ _) cM).cells aE.2
theorem ahp{t:Nat}(bu:o.op=.makeMap t none):yT P o a w G ρ (.map []) (λi=>.map i):=by
 have aw:(execOp a.eval o).run P w=.ok (.value (.map (some w.heap.size))) {w with heap:=w.heap.push (.map #[] 0)}:=by
  simp_all[execOp,Instr.makeMap]
 have hw:ga w (.map #[] 0) {w with heap:=w.heap.push (.map #[] 0)}:=⟨rfl,rfl,rfl⟩;exact⟨_,_,_,aw,hw,λid ρ' cM hi=>⟨⟨#[],0,hw.new,axO,rfl,axt⟩,.map _ _ hi⟩⟩
theorem ahq{t e sz bt:Nat}{z:List ag}{l c:Operand}{bC:O}{k:IntKind}{n:Int}(p:bV n0 gl nt w G ρ lam a st)(bu:o.op=.makeSlice t l c)(qj:a.eval c=a.eval l)(aH:bP P 0 l=some bC)
  (hu:P.underlying t=some (.slice e)) (az:dp P e=some sz) (gq:0<sz) (aQ:zeros P e=some z) (ko:bytesOf P e=some bt) (iu:0<bt) (aj:aK gl st bC=.d (.int k n))
  (aE:(decide (0<=n)&&decide (n<=((1099511627776/bt:Nat):Int)))=true):yT P o a w G ρ (.box (List.replicate n.toNat z).flatten) (λi=>.aS i 0 n.toNat n.toNat sz):=by
 obtain⟨e6,h1⟩:=dC aH p.rel;rw[aj]at h1;have hv:=h1.int;simp at aE;obtain⟨vs,v1,v2,v3⟩:=Oz (P:=P) (w:=w) (k:=k) hu az gq aQ ko iu aE.1 aE.2;have fC:(execOp a.eval o).run P w=.ok (.value (.slice (some ⟨w.heap.size,0,none⟩) n.toNat n.toNat)) {w with heap:=w.heap.push (.cells ⟨vs⟩ e)}:=aya;have hw:ga w (.cells ⟨vs⟩ e) {w with heap:=w.heap.push (.cells ⟨vs⟩ e)}:=⟨rfl,rfl,rfl⟩;refine⟨_,_,_,fC,hw,λid ρ' cM hi=>⟨wg (LC:=.dx id) hw v2,?_⟩⟩;refine .aS _ _ _ _ _ _ _ hi (azI _) ⟨_,e,(0,0),hw.new,?_⟩;simp_all
def ahr(n0:Nat)(gl:Nat->List D)(nt:Nat)(id:Nat)(w:World)(G:bJ)(ρ:List Nat)(K:af->Prop)(a':Act)(w':World):Prop:=
 nt<=a'.tmps.size/\∃G' ρ' lam' aU,Marks n0 w' G' a'.defers/\bX gl w' G' ρ' lam' a'.tmps aU/\Good w G w' G'/\(∀i b:Nat,i≠id->ρ[i]?=some b->ρ'[i]?=some b)/\K aU
theorem ahs{d id:Nat}{ob:b3}{v:Nat->ag}(p:bV n0 gl nt w G ρ lam a st)(aY:o.dst=some d)(bp:d<nt)(hid:ρ[id]?=some 0)(h:yT P o a w G ρ ob v)
  (ao:K ({st with s:=st.s.set id ob}.set d (v id))):o.wp P a w (ahr n0 gl nt id w G ρ K) Q:=by
 obtain⟨v0,obj,w1,aw,hw,h⟩:=h;have aB:=(aAU.1 hid).1;have cM:∀i b:Nat,ρ[i]?=some (b+1)->(ρ.set id (w.heap.size+1))[i]?=some (b+1):=axv;obtain⟨h1,h2⟩:=h id (ρ.set id (w.heap.size+1)) cM axu;have di:=hw.good p.rel.lt (L0:=.obj id) (n0:=0) axt;refine fP aw ⟨axB,_,ρ.set id (w.heap.size+1),lam,_,by rw[put_defers];exact p.eC.good di,?_,di,λi b cB hi=> ?_,ao⟩
 .rw[aY];exact p.rel.ahm hid hw (az' bp p.sz) h1 h2
 grind
theorem aht{an:eo}{m:fl}{i:I}{ob:b3}{d:Nat}{v:Nat->ag}(p:bV n0 gl nt w G ρ lam a st)(h:jc P an m o=some i)(br:jQ gl i st=some (ob,d,v)):yT P o a w G ρ ob v:=by
 unfold jc at h;split at h;case h_4=>
  rename_i e uQ bu aY;simp[aAB,azV]at h;grind[x4,jQ,ahn]
 case h_5=>
  rename_i e x uQ bu aY;simp[aAB,azV,azJ]at h;obtain⟨n,az,bx,ak,rfl⟩:=h;split at br
  .simp[jQ]at br;cases aE:(Nat.beq (cellsOf (gJ (aK gl st bx))).length n&&(cellsOf (gJ (aK gl st bx))).all (dU depth))with
   |false=>simp_all
   |true=>
    rw[aE]at br;grind[aho]
  grind[jQ]
 case h_15=>
  grind[jQ,ahp]
 case h_21=>
  rename_i t l c uQ bu aY;simp only[aAB,azV]at h;obtain⟨e,he,z,aQ,n,az,b,aq,h⟩:=h;split at h
  .rename_i aE;simp at aE;simp[azV,azJ]at h;obtain⟨bC,aH,rfl⟩:=h;have qj:a.eval c=a.eval l:=by
    have:=aE.1.1;unfold G7 at this;grind[Nat.eq_of_beq_eq_true]
   simp only[jQ]at br;split at br
   .rename_i k n' aj;cases ff:(decide (0<=n')&&decide (n'<=((1099511627776/b:Nat):Int)))with
    |false=>grind
    |true=>
     rw[ff]at br;simp at br;obtain⟨rfl,rfl,rfl⟩:=br;exact ahq p bu qj aH (s5 he) az aE.1.2 aQ aq aE.2 aj ff
   simp_all
  simp_all
 all_goals
  exfalso;revert br
  (repeat' (first
   |(simp[aAB,azV,aAt,azJ,reduceCtorEq]at h)
   |(obtain⟨_,_,h⟩:=h)
   |(subst h;simp[jQ];done)
   |(exact h.elim)
   |(split at h)))
 all_goals grind[jQ]
def aCr:=@List.mem_filter
def aAH:=@List.mem_range
def aCs:=@Array.all_eq_true_iff_forall_mem
def aCa:=@List.pairwise_cons
def aBB:=@List.pairwise_append
def aBP:=@Bool.true_eq_false
theorem ayh(h:p:=by simp[cm]):p:=h
theorem azk(h:p:=by have:=(aCa.1 jj.2.1).1 j h;omega):p:=h
theorem wQ{ops:Array Oper}{listed:Array Bool}(ix:∀(j:Nat) (o:Oper),ops[j]?=some o->listed.getD j true=true->∀e∈o.after.toList,Region.binds .any e=true->listed.getD e.on false=true){x:Nat}:
  ∀(n j:Nat) (o:Oper),ops[j]?=some o->(∀e∈o.after.toList,Region.binds .any e=true->listed.getD e.on false=true)->kJ ops x n j=true->listed.getD x false=true
 |0,j,o,_,_,h=>by grind[kJ]
 |n+1,j,o,bb,br,h=>by
  simp only[kJ,bb,List.any_eq_true,azH,aA2]at h;obtain⟨e,he,aq,h⟩:=h;have h1:=br e he aq;rcases h with h|h
  .grind[Nat.eq_of_beq_eq_true]
  .cases kP:ops[e.on]? with
   |none=>
    cases n with
    |zero=>grind[kJ]
    |succ n=>grind[kJ]
   |some cU=>
    refine wQ ix n e.on cU kP (ix e.on cU kP ?_) h;grind
theorem EB{an:eo}{nt:Nat}{all:Array Oper}:∀(fuel:Nat) {l:List Oper} {m:fl} {is:List cb},l.length<=fuel->hB P an nt all m l=some is->is.length=l.length
 |_,[],m,is,_,h=>by
  grind[hB]
 |0,o::l,m,is,bm,_=>axu
 |fuel+1,o::l,m,is,bm,h=>by
  simp at bm;rcases uJ h with⟨g,fV,h1,av,rfl⟩|⟨cU,eH,bC,d,ins,e,fV,rfl,ak,a6,he,av,rfl⟩
  .simp[EB fuel axs av]
  .simp at bm;simp[EB fuel axs av]
theorem I8{an:eo}{nt:Nat}{all:Array Oper}:∀{l:List Oper} {m:fl} {is:List cb},hB P an nt all m l=some is->∀(i:Nat) (o:Oper),(∀j,j<=i->∀g,is[j]?=some g->oe g.i=false)->l[i]?=some o->
  ∃m' g,is[i]?=some g/\qu P an m' o g.i/\o3 all o=some g.g/\kg nt o=true/\g.i.dst=o.dst
 |[],m,is,h,i,o,_,bb=>axu
 |o::l,m,is,h,i,o',az,bb=>by
  rcases uJ h with⟨g,fV,h1,av,rfl⟩|⟨cU,eH,bC,d,ins,e,fV,rfl,ak,a6,he,av,rfl⟩
  .cases i with
   |zero=>
    simp at bb;subst bb;obtain⟨c1,c2,c3,c4⟩:=wG h1;exact⟨m,g,rfl,c1,c2,c3,c4⟩
   |succ i=>
    obtain⟨m',nN,bN,cz⟩:=I8 av i o' (λj aL nN aE=>az (j+1) axs nN (by simpa using aE)) (by simpa using bb);exact⟨m',nN,by simpa using bN,cz⟩
  .obtain⟨s,z,iI,y,sz,b2,rfl,iL⟩:=uG ak;have:=az 0 (azF _) _ rfl;grind[oe]
theorem ahu{g:cb}{st:af}{K:af->Prop}:step1 (bz P gl) gl g st K=steps (bz P gl) gl [g] st K:=by
 obtain⟨q,i⟩:=g;cases q with
 |none=>rfl
 |some q=>
  simp_all[step1,steps]
theorem ahv{ops:Array Oper}{i id:Nat}{an:eo}{m:fl}{g:cb}(p:bV n0 gl nt w G ρ lam a st)(bb:ops[i]?=some o)(h:qu P an m o g.i)
  (aE:o3 ops o=some g.g) (a6:kg nt o=true) (Bj:g.i.dst=o.dst) (hid:hO g.i=true->ρ[id]?=some 0) (hs:ke (bz P gl) gl id g st K):
  wpOp P ops Q i (λa' w'=>nt<=a'.tmps.size/\∃G' ρ' lam' aU,Marks n0 w' G' a'.defers/\bX gl w' G' ρ' lam' a'.tmps aU/\Good w G w' G'/\(∀i b:Nat,(hO g.i=true->i≠id)->ρ[i]?=some b->ρ'[i]?=some b)/\K aU) a w:=by
 unfold ke at hs;cases br:hO g.i with
 |true=>
  rw[br]at hs;split at hs
  .rename_i ob d v aj aD;obtain⟨_,hs⟩:=hs;have yI:=Pz aD;have ahw:jc P an m o=some g.i:=by
    rcases h with h|h
    all_goals grind[hO]
   have aY:o.dst=some d:=axu;have auf:o.guard=none:=by
    grind[o3]
   have bp:d<nt:=ayC;unfold wpOp;rw[bb];have:Region.wanted o (yielded ops a.tmps)=true:=by grind[Region.wanted]
   simp[this,if_true];refine .inl ?_;have:=ahs (n0:=n0) (Q:=Q) p aY bp (hid br) (aht p ahw aD) hs;refine Oper.wp_mono (λa' w' h=> ?_) this;obtain⟨h1,G',ρ',lam',aU,h2,av,aZ,bW,dh⟩:=h;grind
  .exact hs.elim
 |false=>
  rw[br]at hs;simp at hs;rw[ahu]at hs;refine wpOp_mono (λa' w' h=> ?_) (Iu p bb h aE a6 Bj hs);obtain⟨h1,G',ρ',lam',aU,h2,av,aZ,bW,dh⟩:=h;grind
theorem PD{ops:Array Oper}{ts rest:List T}{an:eo}{n:Nat}(aug:ts.length=ops.size)(az:n<=ops.size)
  (rk:∀i,i<n->∀o,ops[i]?=some o->∃m' t,ts[i]?=some t/\qu P an m' o t.g.i/\o3 ops o=some t.g.g/\kg nt o=true/\t.g.i.dst=o.dst)
  (mq:uq ops=true) (I9:∀i,n<=i->i<ops.size->(∀j,j<n->kJ ops j ops.size i=true)\/(n<i/\kJ ops n ops.size i=true))
  (tt:∀i j,i<j->j<n->kJ ops i ops.size j=true\/uR (ts.getD i ⟨0,default,{}⟩) (ts.getD j ⟨0,default,{}⟩))
  (yE:∀i j,i<n->j<n->i≠j->hO (ts.getD i ⟨0,default,{}⟩).g.i=true->hO (ts.getD j ⟨0,default,{}⟩).g.i=true->(ts.getD i ⟨0,default,{}⟩).id≠(ts.getD j ⟨0,default,{}⟩).id)
  (Bv:∀i,i<n->hO (ts.getD i ⟨0,default,{}⟩).g.i=true->ρ0.length<=(ts.getD i ⟨0,default,{}⟩).id)
  (fg:∀{listed:Array Bool} {w:World} {G:bJ} {ρ:List Nat} {lam:Nat->Option Nat} {a:Act} {st:af},listed.size=ops.size->(∀i,i<ops.size->(listed.getD i true=true↔i<n))->
   bV n0 gl nt w G ρ lam a st->iN w0 G0 ρ0 w G ρ->qA P gl rest st K->wpAny P .any ops Q (ops.size-n) listed a w):∀(r:Nat) {rem:List Nat} {listed:Array Bool} {w:World} {G:bJ} {ρ:List Nat} {lam:Nat->Option Nat} {a:Act} {st:af},
  rem.length=r->listed.size=ops.size->rem.Pairwise (·< ·)->(∀i,i∈rem↔i<n/\listed.getD i true=false)->(∀i,n<=i->i<ops.size->listed.getD i true=false)->
  (∀(j:Nat) (o:Oper),ops[j]?=some o->listed.getD j true=true->∀e∈o.after.toList,Region.binds .any e=true->listed.getD e.on false=true)->
  (∀i,i∈rem->hO (ts.getD i ⟨0,default,{}⟩).g.i=true->ρ[(ts.getD i ⟨0,default,{}⟩).id]?=some 0)->
  bV n0 gl nt w G ρ lam a st->iN w0 G0 ρ0 w G ρ->qA P gl (rem.map (λi=>ts.getD i ⟨0,default,{}⟩)++rest) st K->
  wpAny P .any ops Q (r+(ops.size-n)) listed a w:=by
 intro r;induction r with
 |zero=>
  intro rem listed w G ρ lam a st aH cm jj h9 kk ix hzero p f hs;have:=List.eq_nil_of_length_eq_zero aH;subst this;rw[aAy];refine fg cm (λi hi=> ?_) p f hs;constructor
  .grind
  grind
 |succ r ih=>
  intro rem listed w G ρ lam a st aH cm jj h9 kk ix hzero p f hs;rw[Nat.succ_add];have PE:∀i,i∈Region.ready .any ops listed↔(i<ops.size/\listed.getD i true=false)/\∀o,ops[i]?=some o->∀e∈o.after.toList,Region.binds .any e=true->listed.getD e.on false=true:=by
   intro i;unfold Region.ready;rw[aCr,aAH];constructor
   .rintro⟨h1,h2⟩;simp only[azH,az8]at h2;refine⟨⟨h1,h2.1⟩,λo bb e he aq=> ?_⟩;have av:=h2.2;rw[bb]at av;simp only[aAL,aBo,aCs,aA2,az8]at av;rcases av e (by simpa using he)with h|h
    .grind
    omega
   .rintro⟨⟨h1,h2⟩,av⟩;refine⟨h1,?_⟩;simp only[azH,az8];refine⟨h2,?_⟩;rw[aAx h1];simp only[aAL,aBo,aCs,aA2,az8];intro e he;cases aq:Region.binds .any e with
    |false=>simp
    |true=>exact .inr (av _ (aAx h1) e (by simpa using he) aq)
  refine⟨λsS=> ?_,λi hi=> ?_⟩
  ·
   exfalso;cases rem with
   |nil=>grind
   |cons i rem=>
    have hi:=by
     have hm:=(h9 i).1 axt;refine(PE i).2 ⟨⟨axs,hm.2⟩,λo bb e he aq=> ?_⟩;have aB:i<ops.size:=axs;unfold uq at mq;have h1:=azX.1 mq i (aAH.2 aB);rw[bb]at h1;simp only[azX,aA2,az8]at h1;have h2:e.on<i:=by
      rcases h1 e he with h|h
      .grind
      .simpa [aB5]using h
     have av:e.on∉i::rem:=by
      intro h;rcases azY.1 h with h|h
      .omega
      .have:=(aCa.1 jj).1 e.on h;omega
     have aZ:listed.getD e.on true=true:=by
      cases aH:listed.getD e.on true with
      |true=>rfl
      |false=>exact absurd ((h9 e.on).2 ⟨axs,aH⟩) av
     grind
    rw[sS]at hi;simp at hi
  .obtain⟨⟨aB,e7⟩,iw⟩:=(PE i).1 hi;have bb:ops[i]?=some ops[i]:=aAx aB;have dM:i<n:=by
    rcases aAv i n with h|h
    .exact h
    .exfalso;cases rem with
     |nil=>simp at aH
     |cons j rem=>
      have aL:=(h9 j).1 axt;rcases I9 i h aB with hw|⟨uS,hw⟩
      .have:=wQ ix ops.size i _ bb (iw _ bb) (hw j aL.1);have h2:=aL.2;rw[aAE,aAx (show j<listed.size by omega)]at this h2;simp only[aBo]at this h2;rw[this]at h2;simp at h2
      .have:=wQ ix ops.size i _ bb (iw _ bb) hw;have h2:=kk n (azI _) axs;rw[aAE,aAx (show n<listed.size by omega)]at this h2;simp only[aBo]at this h2;rw[this]at h2;simp at h2
   have mV:i∈rem:=(h9 i).2 ⟨dM,e7⟩;obtain⟨l1,l2,rfl⟩:=List.append_of_mem mV;obtain⟨m',t,aE,c1,c2,c3,c4⟩:=rk i dM _ bb;have lh:ts.getD i ⟨0,default,{}⟩=t:=by rw[aAo,aE];rfl
   rw[az5,aAh,aAJ,aBf,lh]at hs;have I':=I7 (l1:=l1.map λi=>ts.getD i ⟨0,default,{}⟩) (λx ak=>by
    simp only[aAn]at ak;obtain⟨j,aL,rfl⟩:=ak;have wD:j∈l1++i::l2:=az3 _ aL;have gB:=(h9 j).1 wD;have nQ:j<i:=by
     rw[aBB]at jj;exact jj.2.2 j aL i axt
    rcases tt j i nQ dM with hp|hp
    .exfalso;have:=wQ ix ops.size i _ bb (iw _ bb) hp;have h2:=gB.2;rw[aAE,aAx (show j<listed.size by omega)]at this h2;simp only[aBo]at this h2;rw[this]at h2;simp at h2
    .rwa [lh]at hp) hs
   obtain⟨cL,e8,jV⟩:=I';refine wpOp_mono ?_ (ahv (Q:=Q) p bb c1 c2 c3 c4 (λbr=>by have:=hzero i mV;rw[lh]at this;exact this br) (e8.mono (K:=λs=>s=cL) rfl));rintro a' w' ⟨bK,G',ρ',lam',aU,q1,cI,ep,gR,rfl⟩;have iM:∀j d,(listed.setIfInBounds i true).getD j d=if j=i then true else listed.getD j d:=by
    intro j d;rw[aAE,aAE,aB0];by_cases h:i=j
    .subst h;simp[show i<listed.size by omega]
    .have cG:j≠i:=λe=>h e.symm;simp[h,cG]
   rw[<-aAJ,<-az5]at jV;have yU:∀j,j∈l1++l2->j∈l1++i::l2/\j≠i:=by
    intro j aL;rw[aBB]at jj;rcases aAu.1 aL with h|h
    .exact⟨az3 _ h,by have:=jj.2.2 j h i axt;omega⟩
    .exact⟨aAf _ (by simp[h]),azk⟩
   refine ih (rem:=l1++l2) ?_ ayh ?_ ?_ ?_ ?_ ?_ ⟨cI,q1,bK⟩ ⟨f.good.trans ep,λj b aq=> ?_⟩ jV
   .simp only[az6,az0]at aH⊢;omega
   .rw[aBB]at jj⊢;exact⟨jj.1,(aCa.1 jj.2.1).2,λx ak y hy=>jj.2.2 x ak y (by simp[hy])⟩
   .intro j;rw[iM];by_cases aL:j=i
    .subst aL;simp only[if_true,aBP,and_false,iff_false];intro wD;exact(yU j wD).2 rfl
    .simp only[aL,az4];rw[<-h9 j];simp[aL]
   .intro j h1 h2;rw[iM,aAc axs];exact kk j h1 h2
   .intro j o qC qD e he aq;rw[iM]at qD⊢;by_cases aL:j=i
    .subst aL;rw[iw o qC e he aq];simp
    .simp only[aL,az4]at qD;rw[ix j o qC qD e he aq];simp
   .intro j aL br;obtain⟨h1,h2⟩:=yU j aL;refine gR _ _ (λBd=> ?_) (hzero j h1 br);have:=yE j i ((h9 j).1 h1).1 dM h2 br (by rw[lh];omega);rw[lh]at this;omega
   .have eW:=f.pre j b aq;refine gR j b (λBd=> ?_) eW;have:=Bv i dM (by rw[lh];omega);rw[lh]at this;have:=(aAU.1 aq).1;omega
def aBQ:=@List.findIdx?_eq_some_iff_getElem
def aCt:=@List.take_append_drop
theorem azl(h:p:=by rw[aA6];intro h;have:=azR h;omega):p:=h
theorem bV.room(p:bV n0 gl nt w G ρ lam a st)(n:Nat):bV n0 gl nt w G (ρ++List.replicate n 0) lam a (st.room n):=by
 have hs:∀L,eV L L w G w G:=λ_ _ _ h=>⟨rfl,h⟩;have cM:∀i b:Nat,ρ[i]?=some (b+1)->(ρ++List.replicate n 0)[i]?=some (b+1):=λi b h=>hE i _ h;refine⟨⟨λt=>(p.rel.aP t).bR (da.refl _ _) cM (λ_ _ h=>h) (hs _),?_,p.rel.nb,⟨by simp[af.room,p.rel.ob.1],?_⟩,p.rel.eI,p.rel.lt⟩,p.eC,p.sz⟩
 .intro t cs aq;obtain⟨b,h1,h2⟩:=p.rel.bI t cs aq;exact⟨b,h1,dJ.bR (da.refl _ _) cM (hs _) (λ_=>hs _) h2⟩
 .intro i b o aq bb;rcases aAv i ρ.length with aH|aH
  .rw[aAp aH]at aq;have sP:i<st.s.length:=by rw[<-p.rel.ob.1];omega
   simp[af.room]at bb;rw[aAp sP]at bb;exact(p.rel.ob.2 i b o aq bb).bR (da.refl _ _) cM (hs _) (λ_=>hs _)
  grind
theorem Ja:∀{l:List cb} {id j q:Nat},(mZ l id)[j]?=some q->id<=q
 |[],_,_,_,h=>by grind[mZ]
 |g::l,id,j,q,h=>by
  cases j with
  |zero=>grind[mZ]
  |succ j=>
   simp[mZ,aBm]at h;have:=Ja h;grind
theorem PF:∀{l:List cb} {id j q:Nat} {g:cb},(mZ l id)[j]?=some q->l[j]?=some g->hO g.i=true->q<id+o1 l
 |[],_,_,_,_,h,_,_=>axu
 |nN::l,id,j,q,g,h,aE,br=>by
  cases j with
  |zero=>
   simp_all[mZ,o1]
  |succ j=>
   simp[mZ,aBm]at h;have:=PF h axu br;simp[o1];grind
theorem Jb:∀{l:List cb} {id i j q q':Nat} {g:cb},i<j->l[i]?=some g->hO g.i=true->(mZ l id)[i]?=some q->(mZ l id)[j]?=some q'->q<q'
 |[],_,_,_,_,_,_,_,_,_,h,_=>axu
 |nN::l,id,i,j,q,q',g,eQ,aE,br,h,cG=>by
  cases j with
  |zero=>omega
  |succ j=>
   cases i with
   |zero=>
    simp at aE;subst aE;simp[mZ,aBI,azJ,aBm,br,azL]at h cG;have:=Ja cG;omega
   |succ i=>
    simp[mZ,aBm]at h cG;exact Jb axs axu br h cG
theorem PG{ops:Array Oper}{is:List cb}{j:Nat}:∀{k:Nat} {l:List Nat},Ax ops is j k=some l->∀i,i<k->∃b,G8 ops is i j=some b/\(b=true->i∈l)
 |0,l,_,i,hi=>axs
 |k+1,l,h,i,hi=>by
  simp[Ax]at h;split at h
  .rename_i bC b h1 h2;simp at h;subst h;by_cases yV:i=k
   .simp_all
   .obtain⟨cg,bN,cz⟩:=PG h1 i axs;grind
  simp_all
theorem PH{ops:Array Oper}{is:List cb}:∀{n:Nat} {dz:List (List Nat)},Ay ops is n=some dz->dz.length=n/\∀j,j<n->Ax ops is j j=some (dz.getD j [])
 |0,dz,h=>by
  grind[Ay]
 |n+1,dz,h=>by
  simp[Ay]at h;split at h
  .rename_i l c h1 h2;simp at h;subst h;obtain⟨bN,cz⟩:=PH h1;refine⟨by simp[bN],λj aL=> ?_⟩;by_cases EC:j=n
   .subst EC;rw[aAo,aAA axs,bN];simpa using h2
   .rw[aAo,aAp axs,<-aAo];exact cz j axs
  .simp at h
theorem Jc:∀{ts:List T} {st:af} {K:af->Prop},qA P gl ts st K->∀t,t∈ts->∃s1 s2,pn P gl t.id t.g s1 s2 t.E
 |[],_,_,_,t,aC=>axu
 |x::ts,st,K,h,t,aC=>by
  obtain⟨aU,h1,h2⟩:=h;rcases azY.1 aC with rfl|aC
  .exact⟨st,aU,h1⟩
  .exact Jc h2 t aC
theorem ahx{x y:T}(eR:xZ x.g y.g=true)(h:PB x y):uR x y:=by
 obtain⟨en,fk,jI,kt,h⟩:=h;unfold Aq at h;simp at h;obtain⟨⟨⟨⟨⟨⟨⟨h1,h2⟩,av⟩,aZ⟩,bW⟩,dh⟩,h6⟩,h7⟩:=h;refine⟨eR,λt aC=> ?_,λt aC=> ?_,agQ jI kt av aZ bW dh h6 h7⟩
 .rw[jI.k]at aC;have:=rS h1 t aC;simp_all
 .rw[kt.k]at aC;have:=rS h2 t aC;simp_all
theorem ahy{x y:T}(ak:∃s1 s2,pn P gl x.id x.g s1 s2 x.E)(hy:∃s1 s2,pn P gl y.id y.g s1 s2 y.E)(eR:xZ x.g y.g=true)(eM:Dl x.g y.g=true):uR x y:=by
 obtain⟨_,_,ak⟩:=ak;obtain⟨_,_,hy⟩:=hy;have Jd:=eR;unfold xZ at Jd;unfold Dl at eM;simp at Jd eM;obtain⟨⟨⟨d1,d2⟩,d3⟩,d4⟩:=Jd;obtain⟨⟨⟨aj,aD⟩,aW⟩,bQ⟩:=eM;have d1:=rS d1;have d2:=rS d2;have aj:=rS aj;have aD:=rS aD;refine⟨eR,λt aC=>⟨λh=>aj t (ak.k t aC) (az3 _ h),λh=>d2 t h (az3 _ (uP (Ez (ak.k t aC))))⟩,λt aC=>⟨aD t (hy.k t aC),λh=>d1 t h (az3 _ (uP (Ez (hy.k t aC))))⟩,?_⟩;have side:∀{X Y:h'},X.rd=[]/\X.ro=[]/\X.len=none->X.ws=[]->Ep X Y:=by
  intro X Y h1 h2;refine⟨λu _=> ?_,λu hu=>axu,λu hu=>axu,⟨λi ob _ q aT=>axu,λn _=>⟨axu,axu,h1.2.2⟩⟩,⟨λi ob hu=>axu,λn az=>axu⟩⟩;cases u with
  |c i off v=>exact⟨axu,axu⟩
  |o i ob=>exact⟨axu,axu⟩
  |n ob=>exact h1.2.2
 have ahz:∀{X Y:h'},Y.rd=[]/\Y.ro=[]/\Y.len=none->Y.ws=[]->Ep X Y:=by
  intro X Y h1 h2;have:=side (Y:=X) h1 h2;exact⟨this.Pb,this.Pa,λu _ v hv=>axu,this.Pc,this.agM⟩
 cases Ik:x.g.i.rs with
 |false=>
  have rR:x.g.i.ws=false:=by
   grind[ahh]
  exact side (ak.r0 Ik) (ak.w0 rR).1
 |true=>
  cases ahA:y.g.i.rs with
  |false=>
   have rR:y.g.i.ws=false:=axu;exact ahz (hy.r0 ahA) (hy.w0 rR).1
  |true=>
   have ED:x.g.i.ws=false:=axu;have PI:y.g.i.ws=false:=axu;have h1:=ak.w0 ED;have h2:=hy.w0 PI;exact⟨axu,axu,axu,⟨axu,λn az=>axu⟩,⟨axu,λn az=>axu⟩⟩
theorem tu{ts:List T}{i:Nat}(h:i<ts.length):ts[i]?=some (ts.getD i ⟨0,default,{}⟩):=axu
def PJ(P:Program)(gl:Nat->List D):Prop:=
 ∀{n0 nt:Nat} {an:eo} {m:fl} {ops:Array Oper} {is:List cb} {ts:List T} {k:Nat} {listed:Array Bool} {w w0:World} {G G0:bJ} {ρ ρ0:List Nat} {lam:Nat->Option Nat} {a:Act} {st:af} {K:af->Prop} {Q:Exit->Act->World->Prop},
  hB P an nt ops m ops.toList=some is->ts.map (·.g)=is->rb is=some k->Dv ops is k=true->uq ops=true->listed.size=ops.size->(∀i,i<ops.size->(listed.getD i true=true↔i<k))->
  bV n0 gl nt w G ρ lam a st->iN w0 G0 ρ0 w G ρ->qA P gl (ts.drop k) st K->(∀i j,i<j->k+3<=i->j<ops.size->kJ ops i ops.size j=true\/uR (ts.getD i ⟨0,default,{}⟩) (ts.getD j ⟨0,default,{}⟩))->(∀a' w',cy n0 gl nt w0 G0 ρ0 K a' w'->Q .normal a' w')->wpAny P .any ops Q (ops.size-k) listed a w
theorem ahB{α:Type}{b:Bool}{x:Option α}{y:α}(h:(if b=true then x else none)=some y):b=true/\x=some y:=axu
theorem ahC(P:Program)(gl:Nat->List D)(ahD:PJ P gl):wH P gl:=by
 intro n0 nt an m id ops is dz w G ρ lam a st K ay fQ p hs;obtain⟨yl,fQ⟩:=ahB fQ
 .simp at yl;obtain⟨⟨⟨h1,h2⟩,av⟩,aZ⟩:=yl;obtain⟨dH,cs⟩:=PH fQ;refine wp_region_any h1 ?_;obtain⟨p',aE⟩:=p.drawn (w.drawn+1);have PK:=p'.room (o1 is);obtain⟨ts,bN,cz,gM,nL⟩:=PC (acc:=[]) (ts:=[]) av axt rfl hs;have e7:=EB ops.toList.length (azI _) ay;have pb:ts.length=ops.size:=axv;have oz:∀i,i<ops.size->is[i]?=some (ts.getD i ⟨0,default,{}⟩).g:=axv;have yW:∀i,i<ops.size->(mZ is st.s.length)[i]?=some (ts.getD i ⟨0,default,{}⟩).id:=axv;have tt:∀i j,i<j->j<ops.size->x5 (rb is) i j=false->kJ ops i ops.size j=true\/uR (ts.getD i ⟨0,default,{}⟩) (ts.getD j ⟨0,default,{}⟩):=by
   intro i j eQ aL wR;obtain⟨b,q1,bK⟩:=PG (cs j aL) i eQ;unfold G8 at q1;rw[oz i axs,oz j aL]at q1;simp only[wR,Bool.or_false]at q1;split at q1
   .simp_all
   .right;split at q1
    .rename_i eR;simp only[azJ]at q1;cases eM:Dl (ts.getD i ⟨0,default,{}⟩).g (ts.getD j ⟨0,default,{}⟩).g with
     |true=>exact ahy (Jc bN _ (aAe (tu axs))) (Jc bN _ (aAe (tu axs))) eR eM
     |false=>
      rw[eM]at q1;obtain⟨rT,bU,b4⟩:=nL j _ (tu axs) i (bK q1.symm);grind[ahx]
    simp_all
  have yE:∀i j,i<ops.size->j<ops.size->i≠j->hO (ts.getD i ⟨0,default,{}⟩).g.i=true->hO (ts.getD j ⟨0,default,{}⟩).g.i=true->(ts.getD i ⟨0,default,{}⟩).id≠(ts.getD j ⟨0,default,{}⟩).id:=by
   intro i j hi aL cB ahE ahF;rcases Nat.lt_or_gt_of_ne cB with h|h
   .have:=Jb h (oz i hi) ahE (yW i hi) (yW j aL);omega
   .have:=Jb h (oz j aL) ahF (yW j aL) (yW i hi);omega
  have Bv:∀i,i<ops.size->hO (ts.getD i ⟨0,default,{}⟩).g.i=true->ρ.length<=(ts.getD i ⟨0,default,{}⟩).id:=by
   intro i hi _;rw[p.rel.ob.1];exact Ja (yW i hi)
  have hzero:∀i,i<ops.size->hO (ts.getD i ⟨0,default,{}⟩).g.i=true->(ρ++List.replicate (o1 is) 0)[(ts.getD i ⟨0,default,{}⟩).id]?=some 0:=by
   intro i hi br;have aw:=PF (yW i hi) (oz i hi) br;have bm:=Bv i hi br;rw[aAA bm,List.getElem?_replicate,aAa (by rw[p.rel.ob.1]at bm⊢;omega)]
  have PL:iN w G ρ {w with drawn:=w.drawn+1} G (ρ++List.replicate (o1 is) 0):=⟨aE,λi b h=>hE i b h⟩;have PN:∀(n:Nat),n<=ops.size->∀i,i∈List.range n↔i<n/\(Array.replicate ops.size false).getD i true=false:=by
   intro n az i;simp only[aAH];constructor
   .intro h;refine⟨h,?_⟩;rw[aAE];grind
   omega
  have gP:∀(n:Nat),∀i,n<=i->i<ops.size->(Array.replicate ops.size false).getD i true=false:=axv;have ix:∀(j:Nat) (o:Oper),ops[j]?=some o->(Array.replicate ops.size false).getD j true=true->∀e∈o.after.toList,Region.binds .any e=true->(Array.replicate ops.size false).getD e.on false=true:=axv;have PO:∀(n:Nat),n<=ops.size->((List.range n).map λi=>ts.getD i ⟨0,default,{}⟩)=ts.take n:=by
   intro n az;apply aBj;intro i;rw[aAK,aBe];by_cases hi:i<n
   .rw[List.getElem?_range hi,aAa hi,tu axs];rfl
   grind
  cases aC:rb is with
  |none=>
   have wR:∀i j,x5 (rb is) i j=false:=λi j=>by rw[aC];rfl
   have iA:∀j:Nat,∀g,is[j]?=some g->oe g.i=false:=by
    grind[rb]
   have:=PD (P:=P) (gl:=gl) (n0:=n0) (nt:=nt) (w0:=w) (G0:=G) (ρ0:=ρ) (K:=K .normal) (Q:=j0 n0 gl nt w G ρ K) (ops:=ops) (ts:=ts) (rest:=[]) (an:=an) (n:=ops.size) pb (azI _)
    (λi hi o bb=>by
     obtain⟨m',g,q1,bK⟩:=I8 ay i o (λj _ g aE=>iA j g aE) axv;grind[tu])
    h2 (λi h cG=>axs) (λi j eQ aL=>tt i j eQ aL (wR i j)) yE Bv
    (λ{listed w' G' ρ' lam' a' aU} cm po Je Jf Jg=>by
     rw[aBY];refine⟨?_,Jf.after (Je.after Jg)⟩;unfold Region.ready;rw[List.filter_eq_nil_iff];intro i hi;have:=(po i (aAH.1 hi)).2 (aAH.1 hi);simp[this])
    ops.size (rem:=List.range ops.size) (listed:=Array.replicate ops.size false) axt axt List.pairwise_lt_range (PN _ (azI _)) (gP _) ix
    (λi hi br=>hzero i (aAH.1 hi) br) PK PL (by rw[PO _ (azI _),aAP axs,aBb];exact bN)
   grind
  |some k=>
   rw[aC]at aZ;simp at aZ;have qo:=by
    unfold rb at aC;have:=(aBQ.1 aC).1;rw[e7]at this;simpa using this
   have iA:∀j:Nat,j<k->∀g,is[j]?=some g->oe g.i=false:=by
    intro j aL g aE;unfold rb at aC;obtain⟨q1,bK,cI⟩:=aBQ.1 aC;have:=cI j aL;rw[azQ axs]at aE;simp at aE;rw[aE]at this;simpa using this
   have wR:∀i j,j<k->x5 (rb is) i j=false:=by
    intro i j aL;rw[aC];unfold x5;have:Nat.blt (k+2) j=false:=by
     rw[aA6];intro h;rw[aB5]at h;omega
    simp[this]
   have I9:∀i,k<=i->i<ops.size->(∀j,j<k->kJ ops j ops.size i=true)\/(k<i/\kJ ops k ops.size i=true):=by
    unfold Dv at aZ;split at aZ
    .split at aZ
     .simp only[azH,azX,aAH,aA2]at aZ;intro i hi kT;by_cases yV:i=k
      .subst yV;exact .inl λj aL=>aZ.1.1.1 j aL
      .refine .inr ⟨axs,?_⟩;rcases aZ.1.1.2 i kT with h|h
       .have:=azW h;omega
       .exact h
     .simp at aZ
    .simp at aZ
   have:=PD (P:=P) (gl:=gl) (n0:=n0) (nt:=nt) (w0:=w) (G0:=G) (ρ0:=ρ) (K:=K .normal) (Q:=j0 n0 gl nt w G ρ K) (ops:=ops) (ts:=ts) (rest:=ts.drop k) (an:=an) (n:=k) pb axs
    (λi hi o bb=>by
     obtain⟨m',g,q1,bK⟩:=I8 ay i o (λj aL g aE=>iA j axs g aE) (by simpa using bb);rw[oz i axs]at q1;simp at q1;subst q1;exact⟨m',_,tu axs,bK⟩)
    h2 I9 (λi j eQ aL=>tt i j eQ axs (wR i j aL)) (λi j hi aL=>yE i j axs axs) (λi hi=>Bv i axs)
    (λ{listed w' G' ρ' lam' a' aU} cm po Je Jf Jg=>ahD ay cz aC aZ h2 cm po Je Jf Jg (λi j eQ hi aL=>tt i j eQ aL (by
     rw[aC];unfold x5;have q1:Nat.beq i (k+1)=false:=azl;have bK:Nat.beq i (k+2)=false:=azl;simp[q1,bK])) λa' w' h=>h)
    k (rem:=List.range k) (listed:=Array.replicate ops.size false) axt axt List.pairwise_lt_range (PN _ axs) (gP _) ix
    (λi hi br=>hzero i (by have:=aAH.1 hi;omega) br) PK PL (by rw[PO _ axs,aCt];exact bN)
   rwa [show k+(ops.size-k)=ops.size by omega]at this
def tv(G:bJ)(b:Nat):Prop:=∃L n,G b=some (L,n)/\(∀i,L≠.obj i)/\∀t,L≠.rf t
theorem tv.cZ{b:Nat}{s d:Loc}(h:tv G b)(a6:(∀i,d≠.obj i)/\∀t,d≠.rf t):tv (cZ (fc s d) G) b:=by
 obtain⟨L,n,h1,h2,av⟩:=h;refine⟨fc s d L,n,AE h1,?_⟩;grind[fc]
inductive yX(P:Program)(gl:Nat->List D)(w:World)(G:bJ)(ρ:List Nat)(lam:Nat->Option Nat)(a:Act)(K:af->Prop)(o:Oper)(b:Nat):Prop
 |st (aR off:Nat) (vs:List Value) (c:Array Value) (E:TypeId) (fz:Nat×Nat) (G':bJ) (aU:af):aR≠b->o.dst=none->w.heap[aR]?=some (.cells c E fz)->off+vs.length<=c.size->
   (∀w':World,w'.heap[aR]?=some (.cells c E fz)->(execOp a.eval o).run P w'=.ok .skip (w'.setCells aR off vs))->bX gl (w.setCells aR off vs) G' ρ lam a.tmps aU->Good w G (w.setCells aR off vs) G'->tv G' b->K aU->yX P gl w G ρ lam a K o b
 |jR (d:Nat) (v:Value) (aU:af):o.dst=some d->(∀w':World,(execOp a.eval o).run P w'=.ok (.value v) w')->bX gl w G ρ lam (a.tmps.setIfInBounds d v) aU->K aU->yX P gl w G ρ lam a K o b
theorem EE{b aR off t n:Nat}{cs:List ag}{L:Loc}{LC:Nat->Loc}{x y:Operand}(fw:dJ w G ρ aR L LC cs)(bu:o.op=.store t x y)(hv:a.eval x=.pointer (some ⟨aR,off,none⟩))(cm:(a.eval y).cells.size=n)(az:off+n<=cs.length)(aQ:dp P t=some n)(h1:∀u∈(a.eval y).cells.toList,u.oneCell'=true)
  (iY:tv G b) (bF:(∃i,L=.obj i)\/∃t,L=.rf t):
  ∃(c:Array Value) (E:TypeId) (fz:Nat×Nat),aR≠b/\w.heap[aR]?=some (.cells c E fz)/\off+(a.eval y).cells.toList.length<=c.size/\
   ∀w':World,w'.heap[aR]?=some (.cells c E fz)->(execOp a.eval o).run P w'=.ok .skip (w'.setCells aR off (a.eval y).cells.toList):=by
 obtain⟨c,E,fz,aj,aD,aW,bQ,cK⟩:=fw;refine⟨c,E,fz,?_,aj,axv,λw' jH=> ?_⟩
 .rintro rfl;obtain⟨L',n',h2,av,aZ⟩:=iY;simp_all
 .have:=OJ (P:=P) (w:=w') (t:=t) (v:=a.eval y) (off:=off) jH aD axs axu h1;grind[execOp,Sem.run_bind,Result.andThen_ok,Sem.run_pure]
theorem ahG{t tb off n t1 t2 b:Nat}{x y:Operand}{bx y':O}(p:bV n0 gl nt w G ρ lam a st)(iY:tv G b)(aY:o.dst=none)(bu:o.op=.store t x y)(ak:bP P t1 x=some bx)(hy:bP P t2 y=some y')
  (aQ:dp P t=some n) (hs:step (bz P gl) gl (.ls bx tb off y' n) st K):yX P gl w G ρ lam a K o b:=by
 obtain⟨e6,aw⟩:=dC ak p.rel;simp[step]at hs;split at hs
 .rename_i ek dI cs aj aD;obtain⟨aE,hs⟩:=hs;simp only[azH]at aE;obtain⟨⟨⟨⟨aC,bb⟩,qi⟩,kn⟩,fQ⟩:=aE;obtain rfl:ek=tb:=azR aC;obtain rfl:dI=off:=azR bb;have qi:=azR qi;rw[aj]at aw;obtain⟨cg,aq,hv⟩:=aw;obtain⟨auh,eW,fw⟩:=p.rel.bI ek cs aD;rw[eW]at aq;simp at aq;subst aq;rcases DN p hy fQ with⟨au,bF,h1⟩|⟨s,z,rfl,hr,au,gQ,jf,h1,hV⟩
  .have cm:(a.eval y).cells.size=n:=by grind[Array.length_toList,cf.length]
   obtain⟨c,E,fz,q1,bK,cI,ep⟩:=EE fw bu hv cm (azW kn) aQ h1 iY (.inr ⟨_,rfl⟩);obtain⟨dt,di⟩:=bX.Ht p.rel aD eW bF;rw[au]at hs;exact .st _ _ _ c E fz G _ q1 aY bK cI ep dt di iY hs
  .have cm:(a.eval y).cells.size=n:=by grind[Array.length_toList]
   obtain⟨c,E,fz,q1,bK,cI,ep⟩:=EE fw bu hv cm (azW kn) aQ axu iY (.inr ⟨_,rfl⟩);have jW:=p.rel.DP (s:=s) (L:=.re ek dI);have wh:=by
    have:=oh (w:=w) (G:=G) (fc (.slot s) (.re ek dI)) (.slot s);rw[sI]at this;exact hV.bR (jD _) (λ_ _ h=>h) this
   obtain⟨dt,di⟩:=bX.Hs (off:=dI) jW (show(st.set s .undef).bI ek=some cs from aD) eW wh;rw[au,gQ]at hs;rw[jf]at cI ep;exact .st _ _ _ c E fz _ _ q1 aY bK cI ep dt ((qe p.rel.lt axt axt).trans di) (iY.cZ ⟨axt,axt⟩) hs
 .exact hs.elim
theorem ahH{t n t1 t2 lT:Nat}{x y:Operand}{bx y':O}(p:bV n0 gl nt w G ρ lam a st)(iY:tv G lT)(aY:o.dst=none)(bu:o.op=.store t x y)(ak:bP P t1 x=some bx)(hy:bP P t2 y=some y')
  (aQ:dp P t=some n) (hs:step (bz P gl) gl (.hs bx y' n) st K):yX P gl w G ρ lam a K o lT:=by
 obtain⟨e6,aw⟩:=dC ak p.rel;simp only[step]at hs;split at hs
 .rename_i i off aj;rw[aj]at aw;have gO:=aw;obtain⟨b,aq,b8⟩:∃b,ρ[i]?=some (b+1)/\a.eval x=.pointer (some ⟨b,off,none⟩):=by
   cases b8:a.eval x<;>rw[b8]at gO<;>cases gO;simp_all
  split at hs
  .rename_i cs aD;obtain⟨aE,hs⟩:=hs;simp only[azH]at aE;obtain⟨⟨qi,kn⟩,fQ⟩:=aE;have qi:=azR qi;have fw:=ayZ;rcases DN p hy fQ with⟨au,bF,h1⟩|⟨s,z,rfl,hr,au,gQ,jf,h1,hV⟩
   .have cm:(a.eval y).cells.size=n:=by grind[Array.length_toList,cf.length]
    obtain⟨c,E,fz,q1,bK,cI,ep⟩:=EE fw bu b8 cm (azW kn) aQ h1 iY (.inl ⟨_,rfl⟩);obtain⟨dt,di⟩:=bX.AK aq p.rel aD bF;rw[au]at hs;exact .st _ _ _ c E fz G _ q1 aY bK cI ep dt di iY hs
   .have cm:(a.eval y).cells.size=n:=by grind[Array.length_toList]
    obtain⟨c,E,fz,q1,bK,cI,ep⟩:=EE fw bu b8 cm (azW kn) aQ axu iY (.inl ⟨_,rfl⟩);have jW:=p.rel.DP (s:=s) (L:=.dx i off);have wh:=by
     have:=oh (w:=w) (G:=G) (fc (.slot s) (.dx i off)) (.slot s);rw[sI]at this;exact hV.bR (jD _) (λ_ _ h=>h) this
    obtain⟨dt,di⟩:=bX.Hu (off:=off) jW (show(st.set s .undef).s.getD i .dead=.box cs from aD) aq wh;rw[au,gQ]at hs;rw[jf]at cI ep;exact .st _ _ _ c E fz _ _ q1 aY bK cI ep dt ((qe p.rel.lt axt axt).trans di) (iY.cZ ⟨axt,axt⟩) hs
  .exact hs.elim
 .exact hs.elim
theorem ahI{d f lT:Nat}{x:Operand}{bx:O}{t t1 n:Nat}{fs:Array Field}{gN:Field}(p:bV n0 gl nt w G ρ lam a st)(aY:o.dst=some d)(bp:d<nt)(bu:o.op=.fieldAddr t x f)(ak:bP P t1 x=some bx)
  (hu:P.underlying t=some (.struct fs)) (bm:fs[f]?=some gN) (aQ:dp P gN.type=some n) (gq:0<n) (hs:step (bz P gl) gl (.gF d bx gN.offset) st K):yX P gl w G ρ lam a K o lT:=by
 obtain⟨e6,h1⟩:=dC ak p.rel;have lj:=az' bp p.sz;have fC:∀b off,a.eval x=.pointer (some ⟨b,off,none⟩)->∀w:World,(execOp a.eval o).run P w=.ok (.value (.pointer (some ⟨b,off+gN.offset,none⟩))) w:=by
  intro b off hv w;have az:¬n=0:=axs;simp_all[execOp,Instr.fieldAt,eB,Instr.sureAddr,fieldPlace,jE,aAC]
 simp[step]at hs;split at hs
 .rename_i i off aj;rw[aj]at h1;have cc:=h1;obtain⟨b,aq,b8⟩:∃b,ρ[i]?=some (b+1)/\a.eval x=.pointer (some ⟨b,off,none⟩):=by
   cases b8:a.eval x<;>rw[b8]at cc<;>cases cc;simp_all
  exact .jR d _ _ aY (fC _ _ b8) (p.rel.set lj (.ck (.ptr _ _ _ aq))) hs
 .rename_i s off aj;rw[aj]at h1;obtain⟨b,aq,b8⟩:=h1;exact .jR d _ _ aY (fC _ _ b8) (p.rel.set lj (show de w G ρ lam _ _ (.dT s (off+gN.offset))from⟨b,aq,rfl⟩)) hs
 .rename_i cs off aj;rw[aj]at h1;have cc:=h1.iq;cases b8:a.eval x<;>rw[b8]at cc<;>cases cc;rename_i b base vs ay aw;exact .jR d _ _ aY (fC _ _ b8) (p.rel.set lj (.ck (.d _ _ ayT))) hs
 .exact hs.elim
theorem ahJ{b aR cY cU:Nat}{v u:Value}(h:b≠aR)(w:World):(w.setCell ⟨b,cY,none⟩ v).setCell ⟨aR,cU,none⟩ u=(w.setCell ⟨aR,cU,none⟩ u).setCell ⟨b,cY,none⟩ v:=by
 simp only[World.setCell];congr 1;grind
theorem PQ{b aR cU:Nat}{u:Value}(h:b≠aR):∀{us:List Value} {cY:Nat} {w:World},(w.setCells b cY us).setCell ⟨aR,cU,none⟩ u=(w.setCell ⟨aR,cU,none⟩ u).setCells b cY us
 |[],_,_=>rfl
 |v::us,cY,w=>by
  simp[World.setCells];rw[PQ h,ahJ h]
theorem PR{b aR:Nat}(h:b≠aR){us:List Value}{cY:Nat}:∀{vs:List Value} {cU:Nat} {w:World},(w.setCells b cY us).setCells aR cU vs=(w.setCells aR cU vs).setCells b cY us
 |[],_,_=>rfl
 |v::vs,cU,w=>by
  simp[World.setCells];rw[PQ h,PR h]
theorem Jh{b aR:Nat}(h:aR≠b):∀{us:List Value} {cY:Nat} {w:World},(w.setCells b cY us).heap[aR]?=w.heap[aR]?
 |[],_,_=>rfl
 |v::us,cY,w=>by
  simp[World.setCells];rw[Jh h];simp[World.setCell,aBG];simp[azZ h]
theorem ahK{an:eo}{m:fl}{ins:I}{b:Nat}(p:bV n0 gl nt w G ρ lam a st)(iY:tv G b)(h:qu P an m o ins)(a6:kg nt o=true)
  (Ji:(∃t s f,o.op=.fieldAddr t (.tmp s) f)\/(∃t s x,o.op=.store t (.tmp s) x)) (hs:step (bz P gl) gl ins st K):yX P gl w G ρ lam a K o b:=by
 rcases h with h|rfl
 .rcases Ji with⟨t,s,f,bu⟩|⟨t,s,x,bu⟩
  .obtain⟨d,aY⟩:∃d,o.dst=some d:=by
    cases aY:o.dst with
    |none=>simp_all[jc]
    |some d=>simp
   simp[jc,bu,aY]at h;have bp:d<nt:=ayC;split at h
   .rename_i fs hu;split at h
    .rename_i gN bm;split at h
     .rename_i aQ;simp at h;obtain⟨bx,ak,rfl⟩:=h;cases o6:dp P gN.type with
      |none=>simp_all
      |some n=>
       grind[ahI]
     simp_all
    simp_all
   simp_all
  .have aY:o.dst=none:=by
    cases aY:o.dst with
    |none=>rfl
    |some d=>simp_all[jc]
   simp[jc,bu,aY,aAB,azV]at h;grind[ahG,ahH]
 .exact hs.elim
theorem least{f:Nat->Bool}:∀(n:Nat),(∃i,i<n/\f i=false)->∃i,i<n/\f i=false/\∀j,j<i->f j=true
 |0,h=>axs
 |n+1,h=>by
  by_cases h1:∃i,i<n/\f i=false
  .obtain⟨i,bN,cz⟩:=least n h1;exact⟨i,axs,cz⟩
  .obtain⟨i,bN,cz⟩:=h;have dM:i=n:=by
    rcases aAv i n with h|h
    .exact absurd ⟨i,h,cz⟩ h1
    .omega
   subst dM;refine⟨i,bN,cz,λj aL=> ?_⟩;cases bm:f j with
   |true=>rfl
   |false=>exact absurd ⟨j,aL,bm⟩ h1
theorem Jj{ops:Array Oper}{listed:Array Bool}(i:Nat):i∈Region.ready .any ops listed↔(i<ops.size/\listed.getD i true=false)/\∀o,ops[i]?=some o->∀e∈o.after.toList,Region.binds .any e=true->listed.getD e.on false=true:=by
 unfold Region.ready;rw[aCr,aAH];constructor
 .rintro⟨h1,h2⟩;simp only[azH,az8]at h2;refine⟨⟨h1,h2.1⟩,λo bb e he aq=> ?_⟩;have av:=h2.2;rw[bb]at av;simp only[aAL,aBo,aCs,aA2,az8]at av;grind
 grind
theorem PS{ops:Array Oper}{listed:Array Bool}(mq:uq ops=true)(cm:listed.size=ops.size)(h:∃i,i<ops.size/\listed.getD i true=false):Region.ready .any ops listed≠[]:=by
 obtain⟨i,h1,h2,av⟩:=least ops.size h;have hi:=by
  refine(Jj i).2 ⟨⟨h1,h2⟩,λo bb e he aq=> ?_⟩;unfold uq at mq;have aZ:=azX.1 mq i (aAH.2 h1);grind[Nat.blt_eq]
 grind
theorem yY{d t:Nat}{v:Value}(h:t≠d):(a.put (some d) v).tmps.getD t undef=a.tmps.getD t undef:=by
 simp_all[Act.put,azZ]
def aCb:=@false_iff
theorem ahL{an:eo}{m:fl}{ins:I}(h:qu P an m o ins)
  (Ji:(∃t s f,o.op=.fieldAddr t (.tmp s) f)\/(∃t s x,o.op=.store t (.tmp s) x)):hO ins=false:=by
 rcases h with h|rfl
 .rcases Ji with⟨t,s,f,bu⟩|⟨t,s,x,bu⟩
  .obtain⟨d,aY⟩:∃d,o.dst=some d:=by
    cases aY:o.dst with
    |none=>simp_all[jc]
    |some d=>simp
   simp[jc,bu,aY]at h;split at h
   .split at h
    .split at h
     .obtain⟨bx,ak,rfl⟩:=h;rfl
     simp_all
    simp_all
   simp_all
  .have aY:o.dst=none:=by
    cases aY:o.dst with
    |none=>rfl
    |some d=>simp_all[jc]
   simp[jc,bu,aY,aAB,azV]at h;obtain⟨n,az,y,hy,z,aQ,h⟩:=h;split at h
   .simp at h;subst h;rfl
   .simp at h;subst h;rfl
 .rfl
theorem PT{xo:Operand}{q:Nat}{v:Value}(h:∀q',xo=.tmp q'->q≠q'):(a.put (some q) v).eval xo=a.eval xo:=eval_put (λq' aT=>azZ (h q' aT))
theorem ahM{ops:Array Oper}{ts:List T}{an:eo}{k d e i0 b pos:Nat}{cU eH:Oper}{xo:Operand}{v1 v2 vi vx:Value}{us:List Value}{c1:Array Value}{E:TypeId}{fz:Nat×Nat}
  (mq:uq ops=true) (kP:ops[k+1]?=some cU) (ff:cU.guard=none) (mX:cU.dst=some e) (qw:ops[k+2]?=some eH) (mj:eH.guard=none) (Et:eH.dst=none) (he:e<nt)
  (Ef:∀(a':Act) (w':World),a'.tmps.getD d undef=v1->a'.tmps.getD i0 undef=vi->(execOp a'.eval cU).run P w'=.ok (.value v2) w')
  (Eg:∀(a':Act) (w':World),a'.tmps.getD e undef=v2->a'.eval xo=vx->w'.heap[b]?=some (.cells c1 E fz)->(execOp a'.eval eH).run P w'=.ok .skip (w'.setCells b pos us))
  (ahN:d≠e) (ahO:i0≠e) (ahP:∀q,xo=.tmp q->e≠q) (ahQ:kJ ops (k+1) ops.size (k+2)=true)
  (rk:∀i,k+3<=i->i<ops.size->∀o,ops[i]?=some o->∃m' t,ts[i]?=some t/\qu P an m' o t.g.i/\t.g.g=none/\o.guard=none/\kg nt o=true/\t.g.i.dst=o.dst/\
   ((∃t s f,o.op=.fieldAddr t (.tmp s) f)\/(∃t s x,o.op=.store t (.tmp s) x))/\
   (∀q,o.dst=some q->d≠q/\i0≠q/\e≠q/\∀q',xo=.tmp q'->q≠q')/\e∉t.g.rd)
  (tt:∀i j,i<j->k+3<=i->j<ops.size->kJ ops i ops.size j=true\/uR (ts.getD i ⟨0,default,{}⟩) (ts.getD j ⟨0,default,{}⟩))
  (a8:∀a' w',cy n0 gl nt w0 G0 ρ0 K a' w'->Q .normal a' w'):∀(r:Nat) {rem:List Nat} {ph:Nat} {listed:Array Bool} {w wv:World} {G:bJ} {a:Act} {st:af},
  rem.length+(2-ph)=r->ph<=2->listed.size=ops.size->rem.Pairwise (·< ·)->
  (∀i,i<ops.size->(listed.getD i true=false↔i∈rem\/(i=k+1/\ph<1)\/(i=k+2/\ph<2)))->(∀i,i∈rem->k+3<=i/\i<ops.size)->
  (∀(j:Nat) (o:Oper),ops[j]?=some o->listed.getD j true=true->∀e∈o.after.toList,Region.binds .any e=true->listed.getD e.on false=true)->
  bV n0 gl nt wv G ρ lam a st->iN w0 G0 ρ0 wv G ρ->tv G b->(ph<2->wv=w.setCells b pos us/\w.heap[b]?=some (.cells c1 E fz))->(ph=2->wv=w)->
  a.tmps.getD d undef=v1->a.tmps.getD i0 undef=vi->a.eval xo=vx->(ph=1->a.tmps.getD e undef=v2)->st.aP e=.undef->
  qA P gl (rem.map (λi=>ts.getD i ⟨0,default,{}⟩)) st K->wpAny P .any ops Q r listed a w:=by
 have fe:=(aAk.1 kP).1;have hf:=(aAk.1 qw).1;intro r;induction r with
 |zero=>
  intro rem ph listed w wv G a st aw Jk cm jj h9 kk ix p f iY s3 mo b8 wE EF EG EH hs;have:rem=[]:=List.eq_nil_of_length_eq_zero axs;subst this;have ahR:ph=2:=axs;have ahS:=mo ahR;subst ahS;refine⟨?_,a8 _ _ (f.after (p.after hs))⟩;unfold Region.ready;rw[List.filter_eq_nil_iff];intro i hi;have hi:=aAH.1 hi;cases aH:listed.getD i true with
  |true=>simp
  |false=>
   rcases(h9 i hi).1 aH with h|⟨_,h⟩|⟨_,h⟩
   .simp at h
   .omega
   .omega
 |succ r ih=>
  intro rem ph listed w wv G a st aw Jk cm jj h9 kk ix p f iY s3 mo b8 wE EF EG EH hs;have iM:∀i,i<ops.size->∀j d,(listed.setIfInBounds i true).getD j d=if j=i then true else listed.getD j d:=by
   intro i hi j d;by_cases h:i=j
   .subst h;simp[show i<listed.size by omega]
   .have cG:j≠i:=λe=>h e.symm;simp[h,cG]
  have yG:∀i,i<ops.size->(∀o,ops[i]?=some o->∀e∈o.after.toList,Region.binds .any e=true->listed.getD e.on false=true)->∀(j:Nat) (o:Oper),ops[j]?=some o->(listed.setIfInBounds i true).getD j true=true->∀e∈o.after.toList,Region.binds .any e=true->(listed.setIfInBounds i true).getD e.on false=true:=by
   intro i hi iw j o qC qD e he aq;rw[iM i hi]at qD⊢;by_cases aL:j=i
   .subst aL;rw[iw o qC e he aq];simp
   .simp only[aL,az4]at qD;rw[ix j o qC qD e he aq];simp
  refine⟨λsS=> ?_,λi hi=> ?_⟩
  .refine absurd sS (PS mq cm ?_);by_cases h2:ph<2
   .exact⟨k+2,hf,(h9 _ hf).2 (.inr (.inr ⟨rfl,h2⟩))⟩
   .cases rem with
    |nil=>simp at aw;omega
    |cons j rem=>
     have:=kk j axt;exact⟨j,this.2,(h9 j this.2).2 (.inl axt)⟩
  .obtain⟨⟨aB,e7⟩,iw⟩:=(Jj i).1 hi;have bb:=aAx aB;rcases(h9 i aB).1 e7 with mV|⟨rfl,h1⟩|⟨rfl,h2⟩
   ·
    obtain⟨l1,l2,rfl⟩:=List.append_of_mem mV;have ahT:=kk i mV;obtain⟨m',t,aE,PU,c2,c3,c4,c5,eN,bT,e1⟩:=rk i ahT.1 aB _ bb;have lh:ts.getD i ⟨0,default,{}⟩=t:=by rw[aAo,aE];rfl
    rw[az5,aAh,lh]at hs;have I':=I7 (l1:=l1.map λi=>ts.getD i ⟨0,default,{}⟩) (λx ak=>by
     simp at ak;obtain⟨j,aL,rfl⟩:=ak;have wD:j∈l1++i::l2:=az3 _ aL;have PV:=kk j wD;have nQ:=by
      rw[aBB]at jj;exact jj.2.2 j aL i axt
     rcases tt j i nQ PV.1 aB with hp|hp
     .exfalso;have:=wQ ix ops.size i _ bb (iw _ bb) hp;have h2:=(h9 j PV.2).2 (.inl wD);rw[aAE,aAx (show j<listed.size by omega)]at this h2;simp at this h2;rw[this]at h2;simp at h2
     .rwa [lh]at hp) hs
    obtain⟨cL,e8,jV⟩:=I';rw[<-az5]at jV;have ahU:=by
     have:=e8.mono (K:=λs=>s=cL) rfl;unfold ke at this;rw[ahL PU eN]at this;simp at this;unfold step1 at this;rw[c2]at this;omega
    have PW:cL.aP e=.undef:=by
     rw[e8.aP e (λh=> ?_) (λh=>e1 (uP (Ez (e8.k e h))))]
     .omega
     .rcases Pt h with h|h
      .rw[c5]at h;exact(bT e h).2.2.1 rfl
      .exact e1 (uP h)
    have yU:∀j,j∈l1++l2->j∈l1++i::l2/\j≠i:=by
     intro j aL;rw[aBB]at jj;rcases aAu.1 aL with h|h
     .exact⟨az3 _ h,by have:=jj.2.2 j h i axt;omega⟩
     .exact⟨aAf _ (by simp[h]),azk⟩
    have PX:(l1++l2).Pairwise (·< ·):=by
     rw[aBB]at jj⊢;exact⟨jj.1,(aCa.1 jj.2.1).2,λx ak y hy=>jj.2.2 x ak y (by simp[hy])⟩
    have sT:(l1++l2).length+(2-ph)=r:=by simp at aw⊢;omega
    have PY:∀j,j<ops.size->((listed.setIfInBounds i true).getD j true=false↔j∈l1++l2\/(j=k+1/\ph<1)\/(j=k+2/\ph<2)):=by
     intro j aL;rw[iM i aB];by_cases nQ:j=i
     .subst nQ;simp only[if_true,aBP,aCb,not_or];exact⟨λh=>(yU j h).2 rfl,λh=>axs,λh=>axs⟩
     .simp only[nQ,az4];rw[h9 j aL];simp[nQ]
    cases ahK p iY PU c4 eN ahU with
    |st aR off vs c uz qm G' aU q1 bK cI ep gR jx ou pg qs=>
     subst qs;have ahV:w.heap[aR]?=some (.cells c uz qm):=by
      rcases aAv ph 2 with h|h
      .rw[<-cI,(s3 h).1,Jh q1]
      .rw[<-mo axs];omega
     refine Iv bb c3 (gR w ahV) ?_;rw[bK];refine ih (rem:=l1++l2) (ph:=ph) (wv:=wv.setCells aR off vs) sT Jk ayh PX PY (λj aL=>kk j (yU j aL).1) (yG i aB iw) ⟨jx,p.eC.good ou,p.sz⟩ ⟨f.good.trans ou,f.pre⟩ pg (λh=> ?_) (λh=>by rw[mo h]) b8 wE EF EG PW jV;obtain⟨h1,h2⟩:=s3 h;exact⟨by rw[h1,PR (azZ q1)],by rw[Jh (azZ q1)];omega⟩
    |jR q v aU q1 bK cI ep=>
     subst ep;obtain⟨bq,yZ,bO,ia⟩:=bT q q1;refine Bk bb c3 (bK w) ?_;rw[q1];refine ih (rem:=l1++l2) (ph:=ph) (wv:=wv) sT Jk ayh PX PY (λj aL=>kk j (yU j aL).1) (yG i aB iw) ⟨cI,p.eC,axB⟩ f iY s3 mo (by rw[yY bq];omega) (by rw[yY yZ];omega) (by rw[PT ia];omega) (λh=>by rw[yY bO];exact EG h) PW jV
   ·
    have ahW:ph=0:=axs;subst ahW;refine Bk kP ff (Ef a w b8 wE) ?_;rw[mX];have rN:=az' he p.sz;have ev:st.set e .undef=st:=by
     obtain⟨aP,bI,s⟩:=st;simp[af.set,af.mk.injEq,aBO];funext t;simp[df];by_cases h:t=e
     .subst h;simp;exact EH.symm
     .simp[h]
    have dt:=by
     have:=p.rel.set (v:=v2) (x:=.undef) rN (.ck (.undef _));rwa [ev]at this
    refine ih (rem:=rem) (ph:=1) (wv:=wv) axs axs ayh jj (λj aL=> ?_) kk (yG _ fe iw) ⟨dt,p.eC,axB⟩ f iY (λ_=>s3 axs) (λh=>axs) (by rw[yY ahN];omega) (by rw[yY ahO];omega) (by rw[PT ahP];omega) (λ_=>by rw[qv rN,aAa rfl]) EH hs;rw[iM _ fe];by_cases uT:j=k+1
    .subst uT;simp only[if_true,aBP,aCb,not_or];exact⟨λh=>by have:=kk _ h;omega,λh=>axs,λh=>axs⟩
    .simp only[uT,az4];rw[h9 j aL];simp[uT]
   ·
    have ahX:ph=1:=by
     rcases aAv ph 1 with h|h
     .exfalso;have:=wQ ix ops.size _ _ bb (iw _ bb) ahQ;have av:=(h9 _ fe).2 (.inr (.inl ⟨rfl,h⟩));rw[aAE,aAx (show k+1<listed.size by omega)]at this av;simp at this av;rw[this]at av;simp at av
     .omega
    subst ahX;obtain⟨aj,aD⟩:=s3 axs;refine Iv qw mj (Eg a w (EG rfl) EF aD) ?_;rw[Et,<-aj];refine ih (rem:=rem) (ph:=2) (wv:=wv) axs axs ayh jj (λj aL=> ?_) kk (yG _ hf iw) p f iY (λh=>axs) (λ_=>rfl) b8 wE EF (λh=>axs) EH hs;rw[iM _ hf];by_cases uT:j=k+2
    .subst uT;simp only[if_true,aBP,aCb,not_or];exact⟨λh=>by have:=kk _ h;omega,λh=>axs,λh=>axs⟩
    .simp only[uT,az4];rw[h9 j aL];simp[uT]
theorem ahY{an:eo}{m:fl}{i:I}(h:jc P an m o=some i):oe i=false:=by
 cases hi:oe i with
 |false=>rfl
 |true=>
  unfold jc at h;split at h;all_goals
   (repeat' (first
    |(simp[aAB,azV,aAt,azJ,reduceCtorEq]at h)
    |(obtain⟨_,_,h⟩:=h)
    |(done)
    |(exact h.elim)
    |(unfold x4 at h)
    |(split at h)))
  all_goals grind[oe]
theorem PZ{an:eo}{all:Array Oper}:∀{k:Nat} {l:List Oper} {m:fl} {is:List cb},hB P an nt all m l=some is->(∀j,j<k->∀g,is[j]?=some g->oe g.i=false)->(∀g,is[k]?=some g->oe g.i=true)->k<is.length->
  ∃cY cU eH d ins e m' fV,l[k]?=some cY/\l[k+1]?=some cU/\l[k+2]?=some eH/\Aw P an cY cU eH=some (d,ins,e)/\d<nt/\e<nt/\is.drop k=⟨none,ins⟩::⟨none,.lG (some e)⟩::⟨none,.lG none⟩::fV/\hB P an nt all m' (l.drop (k+3))=some fV
 |k,[],m,is,h,_,_,aH=>by
  grind[hB]
 |k,o::l,m,is,h,az,au,aH=>by
  rcases uJ h with⟨g,fV,h1,av,rfl⟩|⟨cU,eH,bC,d,ins,e,fV,rfl,ak,a6,he,av,rfl⟩
  .cases k with
   |zero=>
    have:=au g rfl;obtain⟨c1,_⟩:=wG h1;rcases c1 with c1|c1
    all_goals grind[ahY,oe]
   |succ k=>
    obtain⟨cY,cU,eH,d,ins,e,m',ahZ,q1,bK,cI,ep,gR,jx,ou,pg⟩:=PZ (k:=k) av (λj aL nN aE=>az (j+1) axs nN axu) (λnN aE=>au nN axu) axu;exact⟨cY,cU,eH,d,ins,e,m',ahZ,axu,axu,axu,ep,gR,jx,axu,axu⟩
  .cases k with
   |zero=>exact⟨o,cU,eH,d,ins,e,m,fV,rfl,rfl,rfl,ak,a6,he,rfl,axu⟩
   |succ k=>
    obtain⟨s,z,iI,y,sz,b2,rfl,iL⟩:=uG ak;have:=az 0 axs _ rfl;grind[oe]
theorem P0{an:eo}{all:Array Oper}:∀{l:List Oper} {m:fl} {is:List cb},hB P an nt all m l=some is->(∀o,o∈l->(∃t s f,o.op=.fieldAddr t (.tmp s) f)\/(∃t s x,o.op=.store t (.tmp s) x))->∀(i:Nat) (o:Oper),l[i]?=some o->
  ∃m' g,is[i]?=some g/\qu P an m' o g.i/\o3 all o=some g.g/\kg nt o=true/\g.i.dst=o.dst
 |[],m,is,h,_,i,o,bb=>axu
 |o::l,m,is,h,hp,i,o',bb=>by
  rcases uJ h with⟨g,fV,h1,av,rfl⟩|⟨cU,eH,bC,d,ins,e,fV,rfl,ak,a6,he,av,rfl⟩
  .cases i with
   |zero=>
    simp at bb;subst bb;obtain⟨c1,c2,c3,c4⟩:=wG h1;exact⟨m,g,rfl,c1,c2,c3,c4⟩
   |succ i=>
    obtain⟨m',nN,bN,cz⟩:=P0 av (λo bb=>hp o (by simp[bb])) i o' (by simpa using bb);exact⟨m',nN,by simpa using bN,cz⟩
  .obtain⟨s,z,iI,y,sz,b2,rfl,iL⟩:=uG ak;obtain⟨t,u,ch,bt,rM,x,t3,q1,_⟩:=iL.ex;simp_all
def aCu:=@List.mem_range'_1
theorem ah0{aP:Array Value}{e:Nat}:aP.setIfInBounds e (aP.getD e undef)=aP:=by
 apply Array.ext_getElem?;intro j;rw[aAE,aB0];grind
theorem ah1(P:Program)(gl:Nat->List D):PJ P gl:=by
 intro n0 nt an m ops is ts k listed w w0 G G0 ρ ρ0 lam a st K Q ay hr D4 Bw mq cm po p f hs tt a8;have e7:=EB ops.toList.length (azI _) ay;have pb:ts.length=ops.size:=axv;have ah2:=aBQ.1 (show is.findIdx? (λg=>oe g.i)=some k from D4);obtain⟨qo,aui,Bx⟩:=ah2;have jU:k<ops.size:=axv;obtain⟨cY,cU,eH,d,ins,e,m',fV,l1,l2,e0,ak,a6,he,ah3,tk⟩:=PZ (k:=k) ay (λj aL g aE=>axv) (λg aE=>by
   simp_all) qo
 obtain⟨s,z,i0,y,sz,b2,rfl,iL⟩:=uG ak;have yo:ops[k]?=some cY:=axu;have kP:ops[k+1]?=some cU:=axu;have qw:ops[k+2]?=some eH:=axu;have hf:=(aAk.1 qw).1;have Jl:∀j,is[k+j]?=(is.drop k)[j]?:=λj=>axt;have qB:is[k]?=some ⟨none,.kF d s z i0 y sz b2⟩:=by have:=Jl 0;simp_all
 have pq:is[k+1]?=some ⟨none,.lG (some e)⟩:=axu;have kT:is[k+2]?=some ⟨none,.lG none⟩:=by have:=Jl 2;simp_all
 unfold Dv at Bw;rw[qB]at Bw;rw[pq]at Bw;simp only[azH,azX,aAH,aA2]at Bw;obtain⟨⟨⟨t1,t2⟩,t3⟩,t4⟩:=Bw;have pr:∀j,k+3<=j->∀o g,ops[j]?=some o->is[j]?=some g->Du e (e::d::s::z::i0::y.slots) o g=true:=by
  intro j aL o g bb aE;rcases t4 j (aAk.1 bb).1 with h|h
  .grind[Nat.blt_eq]
  simp_all
 have oz:∀i,i<ops.size->is[i]?=some (ts.getD i ⟨0,default,{}⟩).g:=by
  intro i hi;rw[<-hr,aAK,tu axs];rfl
 have wS:∀o g,Du e (e::d::s::z::i0::y.slots) o g=true->o.guard=none/\e∉g.rd/\(∀q,o.dst=some q->q∉e::d::s::z::i0::y.slots)/\((∃t s f,o.op=.fieldAddr t (.tmp s) f)\/(∃t s x,o.op=.store t (.tmp s) x)):=by
  intro o g h;unfold Du at h;simp at h;obtain⟨⟨⟨h1,h2⟩,av⟩,aZ⟩:=h;have ah4:∀{i:Nat} {l:List Nat},dk i l=false->i∉l:=λh hm=>by rw[pe.2 hm]at h;grind
  refine⟨h1,ah4 h2,λq aT=> ?_,?_⟩
  .simp_all
  .split at aZ
   .rename_i t s f bu;exact .inl ⟨t,s,f,bu⟩
   .rename_i t s x bu;exact .inr ⟨t,s,x,bu⟩
   .simp at aZ
 have fe:ops.size-k=(ops.size-(k+1))+1:=axs;rw[fe];have EI:∀i,i<ops.size->(listed.getD i true=false↔k<=i):=by
  intro i hi;have:=po i hi;cases aH:listed.getD i true with
  |true=>simp;have:=this.1 aH;omega
  |false=>
   simp;rcases aAv i k with h|h
   .rw[this.2 h]at aH;simp at aH
   .exact h
 have ix:∀(j:Nat) (o:Oper),ops[j]?=some o->listed.getD j true=true->∀e∈o.after.toList,Region.binds .any e=true->listed.getD e.on false=true:=by
  intro j o qC aH q aT aq;have aL:j<ops.size:=(aAk.1 qC).1;have uT:=(po j aL).1 aH;unfold uq at mq;have aZ:=azX.1 mq j (aAH.2 aL);rw[qC]at aZ;simp only[azX,aA2,az8]at aZ;have bW:q.on<j:=by
   rcases aZ q aT with h|h
   .rw[aq]at h;simp at h
   .simpa [aB5]using h
  have dh:=(po q.on axs).2 axs;rw[aAE,aAx (show q.on<listed.size by omega)]at dh⊢;exact dh
 refine⟨λsS=>absurd sS (PS mq cm ⟨k,jU,(EI k jU).2 (azI _)⟩),λi hi=> ?_⟩;obtain⟨⟨aB,qE⟩,iw⟩:=(Jj i).1 hi;have yV:i=k:=by
  have h1:=(EI i aB).1 qE;rcases aAv k i with h|h
  .exfalso;rcases t2 i aB with h2|h2
   .have:=azW h2;omega
   .have:=wQ ix ops.size i _ (aAx aB) (iw _ (aAx aB)) h2;have av:=(EI k jU).2 (azI _);rw[aAE,aAx (show k<listed.size by omega)]at this av;simp at this av;rw[this]at av;simp at av
  .omega
 subst yV;have ah5:ts.drop i=ts.getD i ⟨0,default,{}⟩::ts.getD (i+1) ⟨0,default,{}⟩::ts.getD (i+2) ⟨0,default,{}⟩::ts.drop (i+3):=by
  have step:∀j,j<ops.size->ts.drop j=ts.getD j ⟨0,default,{}⟩::ts.drop (j+1):=λj aL=>by
   rw[aAI axs,aAo,azQ axs];rfl
  rw[step i jU,step (i+1) axs,step (i+2) hf]
 rw[ah5]at hs;obtain⟨s1,gb,s2,fR,my,fp,jV⟩:=hs;have g0:(ts.getD i ⟨0,default,{}⟩).g=⟨none,.kF d s z i0 y sz b2⟩:=by have:=oz i jU;rw[qB]at this;simpa using this.symm
 have g1:(ts.getD (i+1) ⟨0,default,{}⟩).g=⟨none,.lG (some e)⟩:=by have:=oz (i+1) axs;rw[pq]at this;simpa using this.symm
 have g2:(ts.getD (i+2) ⟨0,default,{}⟩).g=⟨none,.lG none⟩:=by have:=oz (i+2) hf;rw[kT]at this;simpa using this.symm
 have bU:step (bz P gl) gl (.kF d s z i0 y sz b2) st (λq=>q=s1):=by have:=gb.mono (K:=λq=>q=s1) rfl;rw[g0]at this;exact this
 have b4:s1.dA (some e) .undef=s2:=by have:=fR.mono (K:=λq=>q=s2) rfl;rw[g1]at this;exact this
 have dm:s2.dA none .undef=my:=by have:=fp.mono (K:=λq=>q=my) rfl;rw[g2]at this;exact this
 obtain⟨v1,v2,w1,b,pos,us,xo,b7,G',n,c1,E,fz,nR,b0,c8,du,iZ,s7,Bf,Jm,EJ,Jn,Jo⟩:=Ee p iL bU;obtain⟨n4,kq,jF,uH⟩:=Ej iL nR;obtain⟨t,u,ch,bt,rM,x,Jp,q1,bK,cI,ep,gR,jx,ou,pg,qs,_,_,_,_,_,P1,_⟩:=iL.ex;have ah6:xo=x:=by
  rw[ou]at nR;have:x=xo:=by simpa [Op.operands]using nR
  exact this.symm
 have lj:d<a.tmps.size:=az' a6 p.sz;have rN:e<a.tmps.size:=az' he p.sz;have ah7:∀q',xo=.tmp q'->q'∈y.slots:=by
  intro q' aT;rw[ah6]at aT;subst aT;simp[bP,azJ]at P1;rw[<-P1];simp[O.slots]
 refine Bk yo cI b0 ?_;rw[bK];have h1:=Jm.set lj Jn;have dt:bX gl (w1.setCells b pos us) G' ρ lam (a.put (some d) v1).tmps my:=by
  have h2:=h1.set (d:=e) (v:=(a.tmps.setIfInBounds d v1).getD e undef) (x:=.undef) (by simpa using rN) (.ck (.undef _));rw[ah0]at h2;rw[<-dm,<-b4,<-Jo];exact h2
 have ah8:(List.range' (i+3) (ops.size-(i+3))).map (λi=>ts.getD i ⟨0,default,{}⟩)=ts.drop (i+3):=by
  apply aBj;intro j;rw[aAK,aBh];by_cases aL:j<ops.size-(i+3)
  .rw[List.getElem?_range' aL,aAL,Nat.one_mul,tu axs]
  .rw[aBJ (by simpa using aL),aBJ axs];rfl
 have iM:∀j d,(listed.setIfInBounds i true).getD j d=if j=i then true else listed.getD j d:=by
  intro j d;rw[aAE,aAE,aB0];by_cases h:i=j
  .subst h;simp[show i<listed.size by omega]
  .have cG:j≠i:=λe=>h e.symm;simp[h,cG]
 refine ahM (ts:=ts) (an:=an) (k:=i) (d:=d) (e:=e) (i0:=i0) (b:=b) (pos:=pos) (xo:=xo) (v1:=v1) (v2:=v2) (vi:=a.tmps.getD i0 undef) (vx:=a.eval xo) (us:=us) (c1:=c1) (E:=E) (fz:=fz) mq kP jx gR qw qs pg he c8 du (azZ jF) (azZ uH)
  (λq aT=>azZ (n4 q aT).1) t3 ?_ (λj ki h1 h2 av=>tt j ki h1 h2 av) a8 (ops.size-(i+1)) (rem:=List.range' (i+3) (ops.size-(i+3))) (ph:=0) (wv:=w1.setCells b pos us)
  (by simp;omega) axs ayh List.pairwise_lt_range' (λj aL=> ?_) (λj aL=> ?_) ?_ ⟨dt,p.eC.good EJ,axB⟩ ⟨f.good.trans EJ,f.pre⟩ ⟨_,n,Bf,axt,axt⟩ (λ_=>⟨rfl,iZ⟩) (λh=>axs)
  (by rw[qv lj,aAa rfl]) (yY (azZ kq)) (eval_put λq aT=>(n4 q aT).2) (λh=>axs) ?_ (by rw[ah8];exact jV)
 .intro j aL lO o bb;have hp:=wS o _ (pr j aL o _ bb (oz j lO));obtain⟨m2,g,bS,dZ,iP,ku,Bz⟩:=P0 tk (λo' o9=>by
   obtain⟨q,aT⟩:=List.getElem?_of_mem o9;rw[aBh]at aT;have EK:ops[i+3+q]?=some o':=by simpa using aT
   have sZ:=(aAk.1 EK).1;exact(wS o' _ (pr _ axs o' _ EK (oz _ sZ))).2.2.2) (j-(i+3)) o (by rw[aBh,show i+3+(j-(i+3))=j by omega];simpa using bb)
  have ah9:fV[j-(i+3)]?=is[j]?:=by
   have:=Jl (j-i);rw[show i+(j-i)=j by omega,ah3,show j-i=(j-(i+3))+1+1+1 by omega]at this;simpa using this.symm
  rw[ah9,oz j lO]at bS;simp[azJ]at bS;subst bS;refine⟨m2,_,tu axs,dZ,?_,hp.1,ku,Bz,hp.2.2.2,λq aT=> ?_,hp.2.1⟩
  .unfold o3 at iP;rw[hp.1]at iP;simpa using iP.symm
  .have az:=hp.2.2.1 q aT;simp[azY,not_or]at az;exact⟨azZ az.2.1,azZ az.2.2.2.2.1,azZ az.1,λq' EK h=>az.2.2.2.2.2 (by rw[h];exact ah7 q' EK)⟩
 .rw[iM];by_cases nQ:j=i
  .subst nQ;simp only[if_true,aBP,aCb,not_or,aCu];exact⟨λh=>axs,λh=>axs,λh=>axs⟩
  .simp only[nQ,az4,EI j aL,aCu];omega
 .rw[aCu]at aL;omega
 .intro j o qC qD q aT aq;rw[iM]at qD⊢;by_cases aL:j=i
  .subst aL;rw[iw o qC q aT aq];simp
  .simp only[aL,az4]at qD;rw[ix j o qC qD q aT aq];simp
 .rw[<-dm,<-b4];simp[af.dA,af.set,hQ]
theorem ah'(P:Program)(gl:Nat->List D):wH P gl:=ahC P gl (ah1 P gl)
def aBp:=@Go.wpIn_mono
theorem aia{an:eo}{m:fl}{i:I}(h:jc P an m o=some i):∀c,o.op≠.defer c:=by
 intro c he;simp_all[jc]
theorem P2{l n:Nat}{next:Act->World->Prop}(a6:∀c,o.op≠.defer c)(h:o.wp P a w next Q):o.wpIn (Fence.wide.inRound l) n P a w next Q:=by
 refine⟨λ_ _=>trivial,?_⟩;rw[Oper.semAt_eq _ _ _ a6];unfold Oper.wp at h;generalize (execOp a.eval o).run P w=r at h;cases r with
 |ok k7 w'=>
  cases k7 with
  |value v=>exact h
  |skip=>exact h
  |defer d=>exact h
  |enter f args=>exact⟨λh=>by grind[Fence.wide,Fence.inRound],CallsIn.inRound l (callsIn_wide.2 h)⟩
  |row r args=>
   refine⟨λh=>by grind[Fence.wide,Fence.inRound],?_⟩;intro c cs _;obtain⟨v,bS,h1,h2⟩:=h c cs;exact⟨v,bS,h1,stepsIn_wide.2 h2⟩
  |_=>exact h.elim
 |halt e w'=>cases e<;>first|exact h|exact h.elim
theorem Jq{mz n k:Nat}{ops:Array Oper}{rest:List Nat}(bb:ops[k]?=some o)(aE:o.guard=none)(a6:∀c,o.op≠.defer c)(h:o.wp P a w (λa' w'=>wpOpsIn (Fence.wide.inRound mz) n P ops Q rest a' w') Q):
  wpOpsIn (Fence.wide.inRound mz) n P ops Q (k::rest) a w:=by
 simp_all[wpOpsIn,Region.wanted,P2]
theorem Jr{mz n:Nat}{ops:Array Oper}{an:eo}:∀(fuel:Nat) {l:List Oper} {k:Nat} {m:fl} {is:List cb} {w:World} {G:bJ} {ρ:List Nat} {lam:Nat->Option Nat} {a:Act} {st:af},l.length<=fuel->
  (∀j,ops[k+j]?=l[j]?)->hB P an nt ops m l=some is->bV n0 gl nt w G ρ lam a st->iN w0 G0 ρ0 w G ρ->steps (bz P gl) gl is st K->
  (∀a' w',cy n0 gl nt w0 G0 ρ0 K a' w'->Q .normal a' w')->wpOpsIn (Fence.wide.inRound mz) n P ops Q (List.range' k l.length) a w
 |_,[],k,m,is,w,G,ρ,lam,a,st,_,_,ay,p,f,hs,a8=>by
  simp[hB,azJ]at ay;subst ay;exact a8 _ _ (f.after (p.after hs))
 |0,o::l,k,m,is,w,G,ρ,lam,a,st,yK,_,_,_,_,_,_=>axu
 |fuel+1,o::l,k,m,is,w,G,ρ,lam,a,st,yK,aH,ay,p,f,hs,a8=>by
  have bb:ops[k]?=some o:=by have:=aH 0;simp_all
  rcases uJ ay with⟨g,fV,h1,av,rfl⟩|⟨cU,eH,bC,d,ins,e,fV,rfl,ak,a6,he,av,rfl⟩
  .obtain⟨c1,c2,c3,c4⟩:=wG h1;obtain⟨aib,i⟩:=g;rw[az0,aAQ];simp[wpOpsIn,bb];have next:∀a' w',cy n0 gl nt w G ρ (λst=>steps (bz P gl) gl fV st K) a' w'->wpOpsIn (Fence.wide.inRound mz) n P ops Q (List.range' (k+1) l.length) a' w':=by
    rintro a' w' ⟨aD,G',ρ',lam',aU,aj,aW,bQ,cK,dQ⟩;refine Jr fuel (l:=l) (k:=k+1) (m:=uo P m o) axu (λj=> ?_) av ⟨aW,aj,aD⟩ ⟨f.good.trans bQ,λi b h=>cK i b (f.pre i b h)⟩ dQ a8;have:=aH (j+1);grind
   have Js:step (bz P gl) gl i st (λst=>steps (bz P gl) gl fV st K)->o.wpIn (Fence.wide.inRound mz) n P a w (λa' w'=>wpOpsIn (Fence.wide.inRound mz) n P ops Q (List.range' (k+1) l.length) a' w') Q:=by
    intro hs;rcases c1 with c1|rfl
    .exact P2 (aia c1) (Oper.wp_mono next (Ig p c1 c3 hs))
    .exact hs.elim
   rcases Is c2 p.rel.aP with⟨rfl,hw⟩|⟨s,want,rfl,⟨b,aq,hw⟩|⟨aq,hw⟩|⟨g1,g2⟩⟩
   .rw[hw];simp;exact Js hs
   .rw[hw];simp only[steps,aq]at hs;cases ay:cond want b (!b)with
    |true=>simp_all
    |false=>rw[ay]at hs;simp;exact⟨λ_ _=>trivial,next _ _ (Bi p c4.symm c3 hs)⟩
   .rw[hw];simp[steps,aq]at hs;simp;exact⟨λ_ _=>trivial,next _ _ (Bi p c4.symm c3 hs)⟩
   .exfalso;simp[steps]at hs;first
     |exact hs
     |(split at hs
       .rename_i b aq;exact g1 b aq
       .rename_i aq;exact g2 aq
       .exact hs)
  .obtain⟨s,z,i,y,sz,b2,rfl,iL⟩:=uG ak;have kP:ops[k+1]?=some cU:=axu;have qw:ops[k+2]?=some eH:=axu;have gp:=hs;obtain⟨v1,v2,w1,b,pos,us,xo,b7,G',n',c1,E,fz,r0,bU,b4,dm,pj,s9,gS,kr,qx,ta,Bl⟩:=Ee p iL gp;obtain⟨n4,kq,jF,uH⟩:=Ej iL r0;obtain⟨t,u,ch,bt,rM,x,t3,q1,bK,cI,ep,gR,jx,ou,pg,qs,_⟩:=iL.ex;have lj:=az' a6 p.sz;have rN:=az' he p.sz;rw[az0,az0,az0,aAQ,aAQ,aAQ];refine Jq bb cI axu (fP bU ?_);rw[bK];refine Jq kP jx axu (fP (b4 _ _ ?_ ?_) ?_)
   .rw[qv lj,aAa rfl]
   .rw[qv lj,aAc (azZ kq)]
   rw[gR];refine Jq qw qs axu (uu (dm _ _ ?_ ?_ pj) ?_)
   .rw[qv ayn,aAa rfl]
   .rw[eval_put (λq aT=>(n4 q aT).1),eval_put (λq aT=>(n4 q aT).2)]
   rw[pg];have dt:=Iw (v2:=v2) kr ta lj rN;refine Jr fuel (l:=bC) (k:=k+1+1+1) (m:=m) axv (λj=> ?_) av ⟨dt,p.eC.good qx,ay0⟩ ⟨f.good.trans qx,f.pre⟩ Bl a8;have:=aH (j+3);grind
theorem aic{mz n:Nat}{K:aA->af->Prop}{b:eG}{y:Code}(hy:∀{w:World} {G:bJ} {ρ:List Nat} {lam:Nat->Option Nat} {a:Act} {st:af},bV n0 gl nt w G ρ lam a st->iN w0 G0 ρ0 w G ρ->
   run (bz P gl) gl b st K->y.wpIn (Fence.wide.inRound mz) n P (j0 n0 gl nt w0 G0 ρ0 K) a w) {e:Exit} {a':Act} {w':World}
  (h:j0 n0 gl nt w0 G0 ρ0 (λx st=>match x with|.normal=>run (bz P gl) gl b st K|x=>K x st) e a' w'):
  Exit.then (y.wpIn (Fence.wide.inRound mz) n P (j0 n0 gl nt w0 G0 ρ0 K)) (j0 n0 gl nt w0 G0 ρ0 K) e a' w':=by
 cases e with
 |normal=>
  obtain⟨aD,G',ρ',lam',aU,aj,aW,bQ,cK,dQ⟩:=h;exact hy ⟨aW,aj,aD⟩ ⟨bQ,cK⟩ dQ
 |exit i=>exact h
 |ret=>exact h
 |_=>exact h.elim
theorem P3{mz n:Nat}{an:eo}{m:fl}:∀(c:Code) {l bC:List (List Nat×List Nat)} {vc:eG} {w0 w:World} {G0 G:bJ} {ρ0 ρ:List Nat} {lam:Nat->Option Nat} {a:Act} {st:af} {K:aA->af->Prop},
  dq P an nt m c l=some (vc,bC)->kh vc=true->bV n0 gl nt w G ρ lam a st->iN w0 G0 ρ0 w G ρ->run (bz P gl) gl vc st K->c.wpIn (Fence.wide.inRound mz) n P (j0 n0 gl nt w0 G0 ρ0 K) a w:=by
 intro c;induction c with
 |skip=>
  intro l bC vc w0 w G0 G ρ0 ρ lam a st K ay hv p f aw;obtain⟨rfl,rfl⟩:=ay;exact wpIn_skip (f.after (p.after aw))
 |region id ops Bm=>
  intro l bC vc w0 w G0 G ρ0 ρ lam a st K ay hv p f aw;simp[dq]at ay;split at ay
  .rename_i is mr;cases Bm with
   |true=>
    simp at ay;split at ay
    .grind[kh]
    .split at ay
     .grind[Iy,yN,kh]
     .obtain⟨rfl,rfl⟩:=ay;exact aw.elim
   |false=>
    obtain⟨rfl,rfl⟩:=ay;refine wpIn_region ?_;have:List.range ops.size=List.range' 0 ops.toList.length:=ay1;rw[this];exact Jr _ (azI _) (λj=>axt) mr p f aw λa' w' h=>h
  simp_all
 |seq x y tc td=>
  intro l bC vc w0 w G0 G ρ0 ρ lam a st K ay hv p f aw;simp[dq]at ay;split at ay
  .rename_i vx l1 ak;split at ay
   .rename_i Bn l2 hy;obtain⟨rfl,rfl⟩:=ay;simp[kh,azH]at hv;refine wpIn_seq (aBp (tc ak hv.1 p f aw) λe a w h=> ?_);exact aic (λp f aw=>td hy hv.2 p f aw) h
   simp_all
  simp_all
 |cond c x y tc td=>
  intro l bC vc w0 w G0 G ρ0 ρ lam a st K ay hv p f aw;simp[dq]at ay;split at ay
  .rename_i vx co l1 bb ak;split at ay
   .rename_i Bn l2 hy;obtain⟨rfl,rfl⟩:=ay;simp[kh,azH]at hv;simp[run]at aw;obtain⟨L,ew⟩:=dC bb p.rel;split at aw
    .rename_i t aC;rw[aC]at ew;cases t with
     |true=>exact wpIn_cond_true ew.bool (tc ak hv.1 p f aw)
     |false=>exact wpIn_cond_false ew.bool (td hy hv.2 p f aw)
    .exact aw.elim
   simp_all
  simp_all
 |block i b ih=>
  intro l bC vc w0 w G0 G ρ0 ρ lam a st K ay hv p f aw;simp[dq]at ay;split at ay
  .rename_i jS l1 aq;obtain⟨rfl,rfl⟩:=ay;refine wpIn_block (aBp (ih aq hv p f aw) λe a w h=> ?_);cases e with
   |normal=>exact h
   |ret=>exact h
   |exit j=>
    obtain⟨aD,G',ρ',lam',aU,aj,aW,bQ,cK,dQ⟩:=h;simp[Exit.inBlock];by_cases aL:j=i
    .subst aL;simp at dQ;simp;exact⟨aD,G',ρ',lam',aU,aj,aW,bQ,cK,dQ⟩
    .have:Nat.beq j i=false:=by simp_all[aA6]
     simp[this,cond]at dQ;simp[aL,az4];exact⟨aD,G',ρ',lam',aU,aj,aW,bQ,cK,dQ⟩
   |_=>exact h.elim
  simp_all
 |loop b ih=>
  intro l bC vc w0 w G0 G ρ0 ρ lam a st K ay hv p f aw;cases l with
  |nil=>grind[dq]
  |cons q l=>
   grind[dq,kh]
 |exit i=>
  intro l bC vc w0 w G0 G ρ0 ρ lam a st K ay hv p f aw;simp[dq,azJ,aAd]at ay;obtain⟨rfl,rfl⟩:=ay;exact wpIn_exit (f.after (p.after aw))
 |ret=>
  intro l bC vc w0 w G0 G ρ0 ρ lam a st K ay hv p f aw;simp[dq,azJ,aAd]at ay;obtain⟨rfl,rfl⟩:=ay;exact wpIn_ret (f.after (p.after aw))
 |rangeFunc g ps x y _ _=>
  intro l bC vc w0 w G0 G ρ0 ρ lam a st K ay hv p f aw;simp[dq]at ay;split at ay
  .simp at ay;grind[kh]
  simp_all
 |scope _=>grind[dq]
 |label _=>grind[dq]
 |goto _=>grind[dq]
 |refuse _=>
  intro l bC vc w0 w G0 G ρ0 ρ lam a st K ay hv p f aw;simp[dq,azJ,aAd]at ay;obtain⟨rfl,rfl⟩:=ay;exact aw.elim
def aBR:=@Go.RowKit.Below.heap_alloc
theorem P4{L:Loc}{v:Value}{x:ag}(h:de w G ρ lam L v x):dc w G ρ v (la x):=by
 rcases h.cases with h|⟨t,off,b,rfl,_,_⟩
 .rcases h.cases with h|⟨sz,l,rfl,dV⟩|⟨sz,m,us,rfl,dV⟩
  .cases h with
   |nil a sz=>exact .d _ _ (.kK _ _ _)
   |undef v=>exact .undef v
   |d v x cG=>exact .d v x cG
   |ptr _ _ _ cG=>exact .ptr _ _ _ cG
   |map _ _ cG=>exact .map _ _ cG
   |aS _ _ _ _ _ _ _ cG ay aQ=>exact .aS _ _ _ _ _ _ _ cG ay aQ
   |func _ _ _ _ _ h1 h2=>exact .func _ _ _ _ _ h1 h2
   |agg _ _ cG=>exact .agg _ _ cG
   |tuple _ _ cG=>exact .tuple _ _ cG
   |fT _ _ cG=>exact .fT _ _ cG
  .cases l<;>exact .d _ _ dV.rd
  .exact .undef _
 .exact .undef _
theorem auj{L:Loc}{v:Value}{x:ag}{sz:Nat}{l:List D}(h:dr w G ρ L v x)(aH:gK x=some (sz,l)):Rd w G v (.list sz l)/\v.oneCell'=true:=by
 have hs:∀{v:Value} {sz:Nat} {l:List D},Rd w G v (.list sz l)->v.oneCell'=true:=by
  intro v sz l h;cases h<;>rfl
 cases x with
 |d y=>
  cases y<;>simp[gK,azJ,aAd,reduceCtorEq]at aH;obtain⟨rfl,rfl⟩:=aH;have cG:=h;cases cG with
  |d _ _ h=>grind
 |own h5 bC=>
  simp[gK,azJ,aAd]at aH;obtain⟨rfl,rfl⟩:=aH;cases bC with
  |nil=>
   have cG:=h;cases cG with
   |nil a _=>exact⟨.kK _ _ _,rfl⟩
  |cons d bC=>
   have cG:lK w G L v _ (d::bC):=h;grind[lK.rd]
 |gE h5=>
  simp[gK,azJ,aAd]at aH;obtain⟨rfl,rfl⟩:=aH;have cG:Rd w G v (.list h5 []):=by
   rcases(show lK w G L v h5 []\/∃cx,v=.slice cx 0 0 from h)with h|⟨cx,rfl⟩
   .exact h.rd
   .exact .kK _ _ _
  grind
 |_=>grind[gK]
theorem Jt(o:Obj):da w G (w.alloc o) G:=by
 refine⟨λb off v h=> ?_,λb cU h=> ?_,λb n h=> ?_⟩
 .refine⟨?_,h.2⟩;have aq:b<w.heap.size:=by
   have:=h.1;grind[World.cell?]
  rw[aBN (aBR w o b aq)];exact h.1
 .obtain⟨h1,av,h2⟩:=h;exact⟨h1,av,(aBR w o b (aAk.1 h2).1).trans h2⟩
 .obtain⟨c,E,fz,h2,av⟩:=h;exact⟨c,E,fz,(aBR w o b (aAk.1 h2).1).trans h2,av⟩
theorem P5(o:Obj)(aB:∀b L n,G b=some (L,n)->b<w.heap.size)(L:Loc):eV L L w G (w.alloc o) G:=
 λb _ aq=>⟨aBR w o b (aB _ _ _ aq),aq⟩
theorem P6(o:Obj)(aB:∀b L n,G b=some (L,n)->b<w.heap.size):Good w G (w.alloc o) G where
 size:=axt
 il b aq _:=⟨aBR w o b aq,rfl⟩
 new b n aq dB:=absurd (aB _ _ _ dB) (aAW.2 aq)
 old _ _ _ h:=h
 keep:=Jt o
 os:=rfl
 out:=rfl
structure Still(w0:World)(G0:bJ)(ρ0:List Nat)(a:Act)(i6:Nat->ag)(r:Loop)(W:World)(G:bJ)(ρ:List Nat):Prop where
 aP:∀t,dc W G ρ0 (a.tmps.getD t undef) (i6 t)
 lQ:iN w0 G0 ρ0 W G ρ
 kv:W.heap[w0.heap.size+1]?=some (.loop r)
 wT:G (w0.heap.size+1)=none
 qF:W.heap[w0.heap.size]?=some (.deferred (some []))
 y0:G w0.heap.size=none
structure pw(gl:Nat->List D)(W:World)(G:bJ)(ρ:List Nat)(s:aV):Prop where
 ob:ho W G ρ s
 eI:o5 gl W G
 lt:∀b L n,G b=some (L,n)->b<W.heap.size
theorem Still.rel{i6:Nat->ag}{r:Loop}{W:World}{s:aV}(h:Still w0 G0 ρ0 a i6 r W G ρ)(hw:pw gl W G ρ s):bX gl W G ρ (λ_=>none) a.tmps ⟨i6,λ_=>none,s⟩ where
 aP t:=.ck ((h.aP t).keep (da.refl _ _) λi b=>h.lQ.pre i (b+1))
 bI t cs ay:=axu
 nb _ _:=rfl
 ob:=hw.ob
 eI:=hw.eI
 lt:=hw.lt
theorem Still.put{i6:Nat->ag}{r:Loop}{W:World}(h:Still w0 G0 ρ0 a i6 r W G ρ)(fJ:Loop):Still w0 G0 ρ0 a i6 fJ (W.putObj (w0.heap.size+1) (.loop fJ)) G ρ:=by
 have au:=rO (G:=G) (o':=.loop fJ) h.kv rfl;exact⟨λt=>(h.aP t).keep au λ_ _ h=>h,⟨h.lQ.good.putObj h.kv rfl axs,h.lQ.pre⟩,World.putObj_heap_same (aAk.1 h.kv).1,h.wT,(aBz axs).trans h.qF,h.y0⟩
theorem Still.P7{i6:Nat->ag}{r:Loop}{W:World}{s:aV}(h:Still w0 G0 ρ0 a i6 r W G ρ)(hw:pw gl W G ρ s)(fJ:Loop):pw gl (W.putObj (w0.heap.size+1) (.loop fJ)) G ρ s:=by
 have au:=rO (G:=G) (o':=.loop fJ) h.kv rfl;have hs:=λL=>yO (w:=W) (o':=.loop fJ) h.wT L;exact⟨hw.ob.bR au (λ_=>hs _) (λ_ _=>hs _),hw.eI.bR au,λb L n aq=>by rw[World.putObj_size];exact hw.lt b L n aq⟩
theorem Still.run{i6:Nat->ag}{r:Loop}{W W':World}{G':bJ}{ρ':List Nat}(h:Still w0 G0 ρ0 a i6 r W G ρ)(aE:Good W G W' G')(cM:∀i b:Nat,ρ0[i]?=some b->ρ'[i]?=some b):
  Still w0 G0 ρ0 a i6 r W' G' ρ':=by
 have h1:=aE.il _ (aAk.1 h.kv).1 (.inl h.wT);have h2:=aE.il _ (aAk.1 h.qF).1 (.inl h.y0);exact⟨λt=>(h.aP t).keep aE.keep λ_ _ h=>h,⟨h.lQ.good.trans aE,cM⟩,h1.1.trans h.kv,h1.2.trans h.wT,h2.1.trans h.qF,h2.2.trans h.y0⟩
theorem bX.wd{tmps:Array Value}(h:bX gl w G ρ lam tmps st):pw gl w G ρ st.s:=⟨h.ob,h.eI,h.lt⟩
end
section
variable {P:Program}{gl:Nat->List D}{n0 nt:Nat}{a:Act}{w w' w0:World}{G G' G0:bJ}{ρ ρ' ρ0:List Nat}{lam lam':Nat->Option Nat}{st aU:af}{o:Oper}{Q:Exit->Act->World->Prop}
def wU:Code->Option aA
 |.ret=>some .ret
 |.exit i=>some (.exit i)
 |_=>none
def na(tmps:Array Value):List Nat->List Value->Array Value
 |p::ps,v::vs=>na (tmps.setIfInBounds p v) ps vs
 |_,_=>tmps
theorem P8:∀(ps:List Nat) (vs:List Value) (tmps:Array Value),(na tmps ps vs).size=tmps.size
 |[],_,_=>by simp[na]
 |_::_,[],_=>by simp[na]
 |p::ps,v::vs,tmps=>by simp[na,P8 ps vs]
theorem aid(ps:List Nat)(vs:List Value)(tmps:Array Value):
  (((⟨ps⟩:Array Nat).zip (⟨vs⟩:Array Value)).foldl (λtmps (x:Nat×Value)=>match x with|(t,a)=>tmps.setIfInBounds t a) tmps)=na tmps ps vs:=by
 have e:((⟨ps⟩:Array Nat).zip (⟨vs⟩:Array Value))=⟨ps.zip vs⟩:=axt;simp;induction ps generalizing vs tmps with
 |nil=>simp[na]
 |cons p ps ih=>
  cases vs with
  |nil=>simp[na]
  |cons v vs=>simp[aCi,aCk,na];simp_all
theorem P9{gl:Nat->List D}{W:World}{G:bJ}{ρ:List Nat}:∀{ps:List Nat} {vs:List Value} {xs:List ag} {tmps:Array Value} {st0:af},bX gl W G ρ (λ_=>none) tmps st0->(∀p,p∈ps->p<tmps.size)->
  cf W G ρ vs xs->bX gl W G ρ (λ_=>none) (na tmps ps vs) {st0 with aP:=x2 st0.aP ps xs}
 |[],vs,xs,tmps,st0,h,_,_=>by simp_all[na,x2]
 |p::ps,vs,xs,tmps,st0,h,hp,aw=>by
  cases aw with
  |nil=>simpa [na,x2]using h
  |cons v x vs xs h1 h2=>
   exact P9 (st0:=st0.set p x) (h.set (hp p axt) (.ck h1)) (λq aT=>by simpa using hp q (by simp[aT])) h2
theorem aie{an:eo}{m:fl}{x y:Code}{l1 l2 e0 BA:List (List Nat×List Nat)}{jR jS:eG}(br:dq P an nt m x l1=some (jR,l2))(aq:dq P an nt m y e0=some (jS,BA))(qG:kh jR=true)(wV:kh jS=true)
  {i6:Nat->ag} {r:Loop} (ev:r.state=.ready) (auk:r.pending=none) {W:World} {s:aV} (h:Still w0 G0 ρ0 a i6 r W G ρ) (hw:pw gl W G ρ s) {ps:List Nat} {vs:List Value} {xs:List ag}
  (jJ:∀p,p∈ps->p<a.tmps.size) (cm:nt<=a.tmps.size) (wW:cf W G ρ vs xs) {ik:Option aA->aV->Prop} {f n:Nat}
  (aw:q8 (bz P gl) (run (bz P gl) gl jR) (run (bz P gl) gl jS) ps ⟨i6,λ_=>none,s⟩ xs s ik):
  RoundIn Fence.wide n P (w0.heap.size+1) f (na a.tmps ps vs) x y W λe W'=>
   ∃c G' ρ' s',e=.returned (.bool (c:Option Code).isNone)/\(∀j,c=some j->(wU j).isSome=true)/\Still w0 G0 ρ0 a i6 {r with state:=if c.isNone then .ready else .done,pending:=c} W' G' ρ'/\pw gl W' G' ρ' s'/\
    da W G W' G'/\(∀b,b≠w0.heap.size+1->b<W.heap.size->G b=none->W'.heap[b]?=W.heap[b]?/\G' b=none)/\(∀i b:Nat,ρ[i]?=some b->ρ'[i]?=some b)/\ik (c.bind wU) s':=by
 have dt:=P9 (h.rel hw) jJ wW;have p:bV 0 gl nt W G ρ (λ_=>none) {tmps:=na a.tmps ps vs,defers:=[]} {aP:=x2 i6 ps xs,bI:=λ_=>none,s:=s}:=⟨dt,.nil,by grind[P8]⟩;refine roundIn_of_wpIn trivial ?_;obtain⟨_,aw⟩:=aw;refine aBp (P3 x br qG p p.lQ aw) ?_;intro e bh kx pr;cases e with
 |normal=>
  obtain⟨bK,gC,jY,IB,cL,q1,cI,ep,gR,jx⟩:=pr;have s1:=h.run ep (λi b hi=>gR i b (h.lQ.pre i b hi));refine⟨_,run_beginRound s1.kv ev,?_⟩;have s2:=s1.put {r with state:=.busy};have g2:da W G (kx.putObj (w0.heap.size+1) (.loop {r with state:=.busy})) gC:=ep.keep.trans (rO s1.kv rfl);have ey:bV 0 gl nt (kx.putObj (w0.heap.size+1) (.loop {r with state:=.busy})) gC jY IB bh cL:=by
   refine⟨cI.putObj s1.kv rfl s1.wT,?_,bK⟩;obtain⟨hq,aj,aD,aW⟩:=q1;refine⟨hq,aj,aD,λD cH=> ?_⟩;obtain⟨g1,g2,g3⟩:=aW D cH;have cB:D≠w0.heap.size+1:=by intro e;subst e;rw[s1.kv]at g2;simp_all
   grind[World.putObj_heap_other]
  refine aBp (P3 y aq wV ey ey.lQ jx) ?_;have fin:∀(jump:Option Code) {wX:World} {fU:bJ} {ρ2:List Nat} {ow:Nat->Option Nat} {a2:Act} {aN:af},bX gl wX fU ρ2 ow a2.tmps aN->Good (kx.putObj (w0.heap.size+1) (.loop {r with state:=.busy})) gC wX fU->
    (∀i b:Nat,jY[i]?=some b->ρ2[i]?=some b)->∃W',(Instr.endRound (w0.heap.size+1) jump).run P wX=.ok (.bool jump.isNone) W'/\
     Still w0 G0 ρ0 a i6 {r with state:=if jump.isNone then .ready else .done,pending:=jump} W' fU ρ2/\pw gl W' fU ρ2 aN.s/\da W G W' fU/\(∀b,b≠w0.heap.size+1->b<W.heap.size->G b=none->W'.heap[b]?=W.heap[b]?/\fU b=none)/\(∀i b:Nat,ρ[i]?=some b->ρ2[i]?=some b):=by
   intro jump wX fU ρ2 ow a2 aN t1 t2 t3;have my:=s2.run t2 (λi b hi=>t3 i b (gR i b (h.lQ.pre i b hi)));exact⟨_,run_endRound jump my.kv,my.put _,my.P7 t1.wd _,(g2.trans t2.keep).trans (rO my.kv rfl),λb gZ dP ux=>by
    grind[World.putObj_size,World.putObj_heap_other,Good.il],λi b hi=>t3 i b (gR i b hi)⟩
  intro e a2 wX pr;cases e with
  |normal=>
   obtain⟨t2,fU,ρ2,ow,aN,t1,t3,t4,t5,t6⟩:=pr;obtain⟨W',dy,y1,y2,y3,y4,y5⟩:=fin none t3 t4 t5;exact⟨_,W',dy,none,fU,ρ2,aN.s,rfl,λj aL=>axv,y1,y2,y3,y4,y5,t6⟩
  |ret=>
   obtain⟨t2,fU,ρ2,ow,aN,t1,t3,t4,t5,t6⟩:=pr;obtain⟨W',dy,y1,y2,y3,y4,y5⟩:=fin (some .ret) t3 t4 t5;exact⟨_,W',dy,some .ret,fU,ρ2,aN.s,rfl,λj aL=>by cases aL;rfl,y1,y2,y3,y4,y5,t6⟩
  |exit i=>
   obtain⟨t2,fU,ρ2,ow,aN,t1,t3,t4,t5,t6⟩:=pr;obtain⟨W',dy,y1,y2,y3,y4,y5⟩:=fin (some (.exit i)) t3 t4 t5;exact⟨_,W',dy,some (.exit i),fU,ρ2,aN.s,rfl,λj aL=>by cases aL;rfl,y1,y2,y3,y4,y5,t6⟩
  |_=>exact pr.elim
 |exit i=>obtain⟨_,_,_,_,_,_,_,_,_,h⟩:=pr;exact h.elim
 |ret=>obtain⟨_,_,_,_,_,_,_,_,_,h⟩:=pr;exact h.elim
 |_=>exact pr.elim
end
end Go.aJ
