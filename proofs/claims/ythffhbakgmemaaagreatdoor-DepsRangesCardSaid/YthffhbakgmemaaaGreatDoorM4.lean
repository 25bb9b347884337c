/- Part of ranges_said. -/
import Derived.Test.YthffhbakgmemaaaGreatDoorM3
import Derived.RangeFuncCalls
set_option linter.defProp false
set_option maxRecDepth 100000
set_option maxHeartbeats 8000000
set_option linter.unusedSimpArgs false
set_option linter.unusedVariables false
namespace Go.aH
variable {p:Prop}
def aBk:=@List.getElem?_eq_some_iff
def aCH:=@List.set_comm
def aBA:=@Bool.or_eq_true
theorem ay5(h:p:=by cases b<;>simp[ko]at h;rfl):p:=h
theorem azu(h:p:=by cases b<;>simp[ko]at h;rw[h]):p:=h
inductive cL where
 |c (i off:Nat) (v:ah)
 |o (i:Nat) (ob:b9)
 |n (ob:b9)
def cL.app:cL->aU->aU
 |.c i off v,s=>match s.getD i .dead with
  |.box cs=>s.set i (.box (cs.set off v))
  |_=>s
 |.o i ob,s=>s.set i ob
 |.n ob,s=>s++[ob]
def apps:List cL->aU->aU
 |[],s=>s
 |u::ws,s=>apps ws (u.app s)
structure il where
 rd:List (Nat×Nat×List ah):=[]
 ro:List (Nat×b9):=[]
 len:Option Nat:=none
 ws:List cL:=[]
 k:List Nat:=[]
def Jn(s:aU)(q:Nat×Nat×List ah):Prop:=∃cs,s[q.1]?=some (.box cs)/\q.2.1+q.2.2.length<=cs.length/\(cs.drop q.2.1).take q.2.2.length=q.2.2
structure iZ(E:il)(s:aU):Prop where
 rd:∀q,q∈E.rd->Jn s q
 ro:∀q,q∈E.ro->s[q.1]?=some q.2
 len:∀n,E.len=some n->s.length=n
def cL.at(E:il):cL->Prop
 |.c i off _=>∃q,q∈E.rd/\q.1=i/\q.2.1<=off/\off<q.2.1+q.2.2.length
 |.o i _=>∃q,q∈E.ro/\q.1=i
 |.n _=>E.len≠none
def cL.idx(s:aU):cL->Prop
 |.c i _ _=>i<s.length
 |.o i _=>i<s.length
 |.n _=>True
theorem EV(u:cL)(s:aU):s.length<=(u.app s).length:=by
 cases u with
 |c i off v=>grind[cL.app]
 |o i ob=>simp[cL.app]
 |n ob=>simp[cL.app]
theorem EW{u si:cL}{s:aU}(h:u.idx s):u.idx (si.app s):=by
 have:=EV si s;cases u with
 |c i off v=>exact aAI h this
 |o i ob=>exact aAI h this
 |n ob=>trivial
theorem PR{E:il}{u:cL}{s:aU}(h:u.at E)(ai:iZ E s):u.idx s:=by
 cases u with
 |c i off v=>
  obtain⟨q,aS,rfl,_⟩:=h;obtain⟨cs,h1,_⟩:=ai.rd q aS;exact(aBk.1 h1).1
 |o i ob=>
  obtain⟨q,aS,rfl⟩:=h;exact(aBk.1 (ai.ro q aS)).1
 |n ob=>trivial
def cL.ind:cL->cL->Prop
 |.c i off _,.c j dL _=>i≠j\/off≠dL
 |.c i _ _,.o j _=>i≠j
 |.o i _,.c j _ _=>i≠j
 |.o i _,.o j _=>i≠j
 |.n _,.n _=>False
 |_,_=>True
theorem getD_set_ne{s:aU}{i j:Nat}{ob:b9}(h:i≠j):(s.set i ob).getD j .dead=s.getD j .dead:=axY
theorem avp{s:aU}{i:Nat}{ob:b9}(h:i<s.length):(s.set i ob).getD i .dead=ob:=axY
theorem avq{s:aU}{i:Nat}{ob:b9}(h:i<s.length):(s++[ob]).getD i .dead=s.getD i .dead:=axZ
theorem ah0{u si:cL}{s:aU}(h:u.ind si)(h1:u.idx s)(sh:si.idx s):u.app (si.app s)=si.app (u.app s):=by
 have va:∀(i off:Nat) (v:ah) (j dL:Nat) (v':ah),i≠j\/off≠dL->i<s.length->j<s.length->(cL.c i off v).app ((cL.c j dL v').app s)=(cL.c j dL v').app ((cL.c i off v).app s):=by
  intro i off v j dL v' h hi aK;by_cases eP:i=j
  .have bd:=by omega
   simp[cL.app];cases au:s.getD i .dead with
   |box cs=>
    simp_all[aCH,aAt]
   |_=>simp_all
  .simp only[cL.app];cases au:s.getD i .dead<;>cases eZ:s.getD j .dead<;>simp only[au,eZ,getD_set_ne eP,getD_set_ne (aAt eP)];simp_all[aCH,aAt]
 have co:∀(i off:Nat) (v:ah) (j:Nat) (ob:b9),i≠j->(cL.c i off v).app ((cL.o j ob).app s)=(cL.o j ob).app ((cL.c i off v).app s):=by
  intro i off v j ob eP;simp only[cL.app,getD_set_ne (aAt eP)];cases au:s.getD i .dead<;>simp;simp_all[aCH]
 have k3:∀(i off:Nat) (v:ah) (ob:b9),i<s.length->(cL.c i off v).app ((cL.n ob).app s)=(cL.n ob).app ((cL.c i off v).app s):=by
  grind[cL.app]
 have on:∀(i:Nat) (cY ob:b9),i<s.length->(cL.o i cY).app ((cL.n ob).app s)=(cL.n ob).app ((cL.o i cY).app s):=by
  grind[cL.app]
 cases u with
 |c i off v=>cases si with
  |c j dL v'=>exact va i off v j dL v' h h1 sh
  |o j ob=>exact co i off v j ob h
  |n ob=>exact k3 i off v ob h1
 |o i cY=>cases si with
  |c j dL v'=>exact(co j dL v' i cY (aAt h)).symm
  |o j ob=>simp[cL.app];rw[aCH _ _ (aAt h)]
  |n ob=>exact on i cY ob h1
 |n cY=>cases si with
  |c j dL v'=>exact(k3 j dL v' cY sh).symm
  |o j ob=>exact(on j ob cY sh).symm
  |n ob=>exact h.elim
theorem PS{u:cL}:∀{ws:List cL} {s:aU},(∀v,v∈ws->u.ind v)->u.idx s->(∀v,v∈ws->v.idx s)->apps ws (u.app s)=u.app (apps ws s)
 |[],_,_,_,_=>rfl
 |v::ws,s,h,h1,sh=>by
  simp[apps];rw[<-ah0 (h v axX) h1 (sh v axX)];exact PS (λw hw=>h w (by simp[hw])) (EW h1) (λw hw=>EW (sh w (by simp[hw])))
theorem PT:∀{us ws:List cL} {s:aU},(∀u,u∈us->∀v,v∈ws->u.ind v)->(∀u,u∈us->u.idx s)->(∀v,v∈ws->v.idx s)->apps us (apps ws s)=apps ws (apps us s)
 |[],_,_,_,_,_=>rfl
 |u::us,ws,s,h,h1,sh=>by
  simp[apps];rw[<-PS (h u axX) (h1 u axX) sh];exact PT (λw hw=>h w (by simp[hw])) (λw hw=>EW (h1 w (by simp[hw]))) (λv hv=>EW (sh v hv))
def cL.safe(E:il):cL->Prop
 |.c i off _=>(∀q,q∈E.rd->q.1≠i\/off<q.2.1\/q.2.1+q.2.2.length<=off)/\∀q,q∈E.ro->q.1≠i
 |.o i ob=>(∀q,q∈E.rd->q.1≠i\/∃cs,ob=.box cs/\q.2.1+q.2.2.length<=cs.length/\(cs.drop q.2.1).take q.2.2.length=q.2.2)/\∀q,q∈E.ro->q.1≠i
 |.n _=>E.len=none
theorem PU{cs:List ah}{off n j:Nat}{v:ah}(h:j<off\/off+n<=j):((cs.set j v).drop off).take n=(cs.drop off).take n:=by
 apply aBV;grind
theorem ah1{E:il}{u:cL}{s:aU}(h:u.safe E)(ai:iZ E s):iZ E (u.app s):=by
 cases u with
 |c i off v=>
  simp[cL.app];split
  .rename_i cs au;have hi:i<s.length:=axZ;have hs:s[i]?=some (.box cs):=axY;refine⟨λq aS=> ?_,λq aS=> ?_,λn ay=>by grind[iZ.len]⟩
   .obtain⟨dZ,h1,sh,av⟩:=ai.rd q aS;by_cases l0:q.1=i
    .have aY:=(h.1 q aS).resolve_left (λcB=>cB l0);rw[l0]at h1;rw[hs]at h1;simp at h1;refine⟨cs.set off v,axY,axY,?_⟩;grind[PU]
    .exact⟨dZ,axZ,sh,av⟩
   .rw[aAQ (aAt (h.2 q aS))];exact ai.ro q aS
  omega
 |o i ob=>
  simp[cL.app];refine⟨λq aS=> ?_,λq aS=> ?_,λn ay=>by grind[iZ.len]⟩
  .obtain⟨dZ,h1,sh,av⟩:=ai.rd q aS;by_cases l0:q.1=i
   .obtain⟨cs,rfl,k1,k2⟩:=(h.1 q aS).resolve_left (λcB=>cB l0);have hi:i<s.length:=axZ;exact⟨cs,axY,k1,k2⟩
   .exact⟨dZ,axZ,sh,av⟩
  .rw[aAQ (aAt (h.2 q aS))];exact ai.ro q aS
 |n ob=>
  simp[cL.app];refine⟨λq aS=> ?_,λq aS=> ?_,λn ay=>by rw[show E.len=none from h]at ay;simp_all⟩
  .obtain⟨dZ,h1,sh,av⟩:=ai.rd q aS;have hi:=(aBk.1 h1).1;exact⟨dZ,axZ,sh,av⟩
  .have hi:=(aBk.1 (ai.ro q aS)).1;grind[iZ.ro]
theorem PV{E:il}:∀{ws:List cL} {s:aU},(∀u,u∈ws->u.safe E)->iZ E s->iZ E (apps ws s)
 |[],_,_,ai=>ai
 |u::ws,s,h,ai=>by
  exact PV (s:=u.app s) (λv hv=>h v (by simp[hv])) (ah1 (h u axX) ai)
structure EX(X Y:il):Prop where
 old:∀i ob,cL.o i ob∈Y.ws->∀q,q∈X.rd->q.1=i->∃cs,(i,b9.box cs)∈Y.ro/\q.2.1+q.2.2.length<=cs.length/\(cs.drop q.2.1).take q.2.2.length=q.2.2
 len:∀n,Y.len=some n->(∀q,q∈X.rd->q.1<n)/\(∀q,q∈X.ro->q.1<n)/\X.len=none
structure EY(X Y:il):Prop where
 PW:∀u,u∈Y.ws->u.safe X
 PX:∀u,u∈X.ws->u.safe Y
 ww:∀u,u∈X.ws->∀v,v∈Y.ws->u.ind v
 ah2:EX X Y
 PY:EX Y X
theorem PZ{i off n:Nat}{l:List ah}(aI:l.length=n):∀{ws:List cL} {s:aU},i<s.length->(∀ob,cL.o i ob∉ws)->(∀j v,cL.c i j v∈ws->j<off\/off+n<=j)->Jn (apps ws s) (i,off,l)->Jn s (i,off,l)
 |[],_,_,_,_,h=>h
 |u::ws,s,hi,bd,az,h=>by
  have cG:=PZ aI (ws:=ws) (s:=u.app s) (aAI hi (EV u s)) (λob hm=>bd ob axZ) (λj v hm=>az j v axZ) h;obtain⟨dZ,h1,sh,av⟩:=cG;cases u with
  |n ob=>
   simp[cL.app]at h1;rw[aAY hi]at h1;exact⟨dZ,h1,sh,av⟩
  |o j ob=>
   simp[cL.app]at h1;by_cases aK:j=i
   .simp_all
   .rw[aAQ aK]at h1;exact⟨dZ,h1,sh,av⟩
  |c j k v=>
   simp[cL.app]at h1;split at h1
   .rename_i cs au;by_cases aK:j=i
    .subst aK;rw[aAW hi]at h1;simp at h1;subst h1;have aq:=az k v axX;simp at sh;have e:s[j]?=some (.box cs):=axY;refine⟨cs,e,sh,?_⟩;grind[PU]
    .rw[aAQ aK]at h1;exact⟨dZ,h1,sh,av⟩
   .exact⟨dZ,h1,sh,av⟩
theorem P0{i:Nat}{ob:b9}:∀{ws:List cL} {s:aU},i<s.length->(∀ob,cL.o i ob∉ws)->(∀j v,cL.c i j v∉ws)->(apps ws s)[i]?=some ob->s[i]?=some ob
 |[],_,_,_,_,h=>h
 |u::ws,s,hi,bd,az,h=>by
  have h1:=P0 (ws:=ws) (s:=u.app s) (aAI hi (EV u s)) (λob hm=>bd ob (by simp[hm])) (λj v hm=>az j v (by simp[hm])) h;cases u with
  |n ob=>
   simp[cL.app]at h1;rwa [aAY hi]at h1
  |o j ob=>
   simp[cL.app]at h1;by_cases aK:j=i
   .subst aK;exact absurd axX (bd ob)
   .rwa [aAQ aK]at h1
  |c j k v=>
   simp[cL.app]at h1;split at h1
   .by_cases aK:j=i
    .subst aK;exact absurd axX (az k v)
    .rwa [aAQ aK]at h1
   .exact h1
theorem ah3:∀(ws:List cL) (s:aU),s.length<=(apps ws s).length
 |[],_=>aAd _
 |u::ws,s=>aAZ (EV u s) (ah3 ws _)
theorem Jo:∀{ws:List cL} {s:aU},(∀ob,cL.n ob∉ws)->(apps ws s).length=s.length
 |[],_,_=>rfl
 |u::ws,s,h=>by
  have:=Jo (ws:=ws) (s:=u.app s) λob hm=>h ob (by simp[hm]);show(apps ws (u.app s)).length=_;rw[this];cases u with
  |n ob=>exact absurd axX (h ob)
  |o j ob=>simp[cL.app]
  |c j k v=>simp[cL.app];split<;>simp
theorem ah4{X Y:il}(h:∀u,u∈Y.ws->u.safe X)(au:EX X Y)(j':∀u,u∈Y.ws->u.at Y){s:aU}(wa:iZ Y s)(ak:iZ X (apps Y.ws s)):iZ X s:=by
 have aA:∀{i:Nat},(∀n,Y.len=some n->i<n)->i<(apps Y.ws s).length->i<s.length:=by
  intro i h1 sh;cases aI:Y.len with
  |none=>
   rwa [Jo (λob hm=>(j' _ hm) aI)]at sh
  |some n=>grind[iZ.len]
 refine⟨λq aS=> ?_,λq aS=> ?_,λn ay=> ?_⟩
 .have h1:=ak.rd q aS;have hi:q.1<s.length:=by
   obtain⟨cs,sh,_⟩:=h1;exact aA (λn aI=>(au.len n aI).1 q aS) (aBk.1 sh).1
  by_cases bd:∃ob,cL.o q.1 ob∈Y.ws
  .obtain⟨ob,bd⟩:=bd;obtain⟨cs,k1,k2,fX⟩:=au.old q.1 ob bd q aS rfl;exact⟨cs,wa.ro _ k1,k2,fX⟩
  .obtain⟨i,off,l⟩:=q;exact PZ rfl hi (λob hm=>bd ⟨ob,hm⟩) (λj v hm=>((h _ hm).1 _ aS).resolve_left (λe=>e rfl)) h1
 .have h1:=ak.ro q aS;have hi:=aA (λn aI=>(au.len n aI).2.1 q aS) (aBk.1 h1).1;exact P0 hi (λob hm=>(h _ hm).2 q aS rfl) (λj v hm=>(h _ hm).2 q aS rfl) h1
 .have h1:=ak.len n ay;rw[<-h1];refine(Jo λob hm=> ?_).symm;have:=h _ hm;rw[show X.len=none from this]at ay;simp_all
mutual
theorem EZ:∀{a b:D},ko a b=true->a=b
 |.bool a,b,h=>azu
 |.int k a,b,h=>by cases b<;>simp[ko]at h;rw[h.1,h.2]
 |.str a,b,h=>azu
 |.list z a,b,h=>by
  cases b<;>simp[ko]at h;rw[h.1,B1 h.2]
 |.agg a,b,h=>by
  cases b<;>simp[ko]at h;rw[B1 h]
 |.dP,b,h=>ay5
 |.hS,b,h=>ay5
 |.ll,b,h=>ay5
 |.iy,b,h=>ay5
 |.fn a,b,h=>azu
 |.e1 a n,b,h=>by
  cases b<;>simp[ko]at h;rw[B1 h.1,h.2]
 |.iface t x,b,h=>by
  cases b<;>simp[ko]at h;rw[h.1,EZ h.2]
 |.ln a c,b,h=>by cases b<;>simp[ko]at h
 |.hT,b,h=>by cases b<;>simp[ko]at h
theorem B1:∀{a b:List D},s8 a b=true->a=b
 |[],[],_=>rfl
 |[],_::_,h=>by simp[s8]at h
 |_::_,[],h=>by simp[s8]at h
 |x::a,y::b,h=>by
  simp only[s8,aAc]at h;rw[EZ h.1,B1 h.2]
end
theorem Jp{a b:ah}(h:DV a b=true):a=b:=by
 cases a<;>cases b<;>simp[DV]at h
 .rw[EZ h]
 .rw[h.1,B1 h.2]
 all_goals simp_all
theorem P1:∀{a b:List ah},yK a b=true->a=b
 |[],[],_=>rfl
 |[],_::_,h=>by grind[yK]
 |_::_,[],h=>by grind[yK]
 |x::a,y::b,h=>by
  simp[yK,aAc]at h;rw[Jp h.1,P1 h.2]
structure ka(E:il)(f:jc):Prop where
 rd:∀q,q∈E.rd->(q.1,q.2.1,q.2.2.length)∈f.r++f.w\/(q.1,0,big)∈f.r++f.w
 ro:∀q,q∈E.ro->(q.1,0,big)∈f.r++f.w\/∃ids fq s,f.c=some (ids,fq,s)/\q.1∈ids
 len:∀n,E.len=some n->f.a=some n
 k:E.k=f.k
 E0:∀i off v,cL.c i off v∈E.ws->∃o n,(i,o,n)∈f.w/\(n=big\/o<=off/\off<o+n)
 xq:∀i ob,cL.o i ob∈E.ws->(i,0,big)∈f.w\/∃ids fq s,f.c=some (ids,fq,s)/\i∈ids/\s.getD i .dead=ob/\(i,fq.getD i .dead)∈E.ro
 wn:∀ob,cL.n ob∈E.ws->f.a≠none
 ca:f.c≠none->f.a≠none
 v:f.v.length=1->f.r.length=1->f.w=[]->f.c=none->(∀q,q∈E.rd->q∈f.v)/\E.ro=[]
theorem qU{a b:List (Nat×Nat×Nat)}(h:mC a b=true){x y:Nat×Nat×Nat}(ak:x∈a)(wa:y∈b):x.1≠y.1\/(x.2.2≠big/\y.2.2≠big/\(x.2.1+x.2.2<=y.2.1\/y.2.1+y.2.2<=x.2.1)):=by
 have:=aAx.1 (aAx.1 h x ak) y wa;simp at this;rcases this with h|⟨⟨h1,sh⟩,av⟩
 .left;intro e;simp_all
 .right;refine⟨λe=>axY,λe=>axY,?_⟩;simp_all
theorem ah5{a b:List (Nat×Nat×Nat)}(h:mC a b=true):mC b a=true:=by
 unfold mC;rw[aAx];intro y wa;rw[aAx];intro x ak;have:=aAx.1 (aAx.1 h x ak) y wa;simp at this⊢;rcases this with h|⟨⟨h1,sh⟩,av⟩
 .grind[Nat.eq_of_beq_eq_true]
 grind
theorem B2{f g:jc}{ids:List Nat}{fq s:aU}(h:pn f g=true)(az:f.c=some (ids,fq,s)):
  g.c=none/\(∀c,c∈g.w->c.1∉ids)/\((∀c,c∈g.r->c.1∉ids)\/(g.w=[]/\g.r.length=1/\g.v.length=1/\∀c,c∈g.v->c.1∉ids\/(sameAt fq c=true/\sameAt s c=true))):=by
 unfold pn at h;rw[az]at h;simp only[aAc,aAx,aBA,aAE,Option.isNone_iff_eq_none,List.isEmpty_iff]at h;obtain⟨⟨h1,sh⟩,av⟩:=h;have ne:∀{i:Nat},dk i ids=false->i∉ids:=by
  intro i hi hm;have:dk i ids=true:=by
   clear az sh av hi;induction ids with
   |nil=>simp_all
   |cons j l ih=>
    simp[dk];rcases aAs.1 hm with rfl|hm
    all_goals simp_all
  simp_all
 refine⟨h1,λc az=>ne (sh c az),?_⟩;rcases av with av|⟨⟨⟨av,aW⟩,bL⟩,cW⟩
 .grind
 .exact .inr ⟨av,aAn bL,aAn cW,λc az=>(aW c az).imp ne id⟩
theorem P2{s:aU}{q:Nat×Nat×List ah}(h:sameAt s q=true):∃cs,s.getD q.1 .dead=.box cs/\q.2.1+q.2.2.length<=cs.length/\(cs.drop q.2.1).take q.2.2.length=q.2.2:=by
 unfold sameAt at h;split at h
 .rename_i cs e;simp only[aAc]at h;exact⟨cs,e,aAr h.1,(P1 h.2).symm⟩
 simp_all
theorem Jq{f g:jc}(h:rH f g=true){n:Nat}(ay:f.a=some n):g.a=none/\(∀c,c∈g.r++g.w->c.1<n):=by
 unfold rH at h;rw[ay]at h;simp at h;grind
theorem P3{X Y:il}{en fk:jc}(jO:ka X en)(kD:ka Y fk)(aY:mC fk.w (en.r++en.w)=true)(az:pn en fk=true)(tR:pn fk en=true)(bp:rH fk en=true):∀u,u∈Y.ws->u.safe X:=by
 have xr:∀(i:Nat),(∃o n,(i,o,n)∈fk.w)->∀q,q∈X.ro->q.1≠i:=by
  rintro i ⟨o,n,hw⟩ q aS;rcases jO.ro q aS with h|⟨ids,fq,s,h1,sh⟩
  .rcases qU aY hw h with h|⟨_,h,_⟩
   all_goals grind
  grind[B2]
 intro u hu;cases u with
 |c i off v=>
  obtain⟨o,n,hw,dw⟩:=kD.E0 i off v hu;refine⟨λq aS=> ?_,xr i ⟨o,n,hw⟩⟩;rcases jO.rd q aS with h|h
  .rcases qU aY hw h with h|⟨h1,sh,av⟩
   all_goals grind
  .rcases qU aY hw h with h|⟨_,h,_⟩
   all_goals grind
 |o i ob=>
  rcases kD.xq i ob hu with hw|⟨ids,fq,s,h1,sh,av,aW⟩
  .refine⟨λq aS=>.inl ?_,xr i ⟨0,big,hw⟩⟩;rcases jO.rd q aS with h|h
   .rcases qU aY hw h with h|⟨h,_⟩
    all_goals grind
   .rcases qU aY hw h with h|⟨h,_⟩
    all_goals grind
  .obtain⟨k1,k2,fX⟩:=B2 tR h1;have cB:∀j o n,(j,o,n)∈en.r++en.w->(∀c,c∈en.r->c.1∉ids)->j∉ids:=axZ;rcases fX with fX|⟨fX,jn,qL,BQ⟩
   .refine⟨λq aS=>.inl ?_,λq aS=> ?_⟩
    .rintro rfl;rcases jO.rd q aS with h|h
     all_goals grind
    grind[ka.ro]
   .obtain⟨v2,v3⟩:=jO.v qL jn fX k1;refine⟨λq aS=> ?_,λq aS=>axY⟩;grind[P2]
 |n ob=>
  show X.len=none;have h1:=kD.wn ob hu;cases aI:X.len with
  |none=>rfl
  |some n=>
   cases wa:fk.a with
   |none=>simp_all
   |some m=>
    have:=(Jq bp wa).1;grind[ka.len]
theorem P4{X Y:il}{en fk:jc}(jO:ka X en)(kD:ka Y fk)(aY:mC fk.w (en.r++en.w)=true)(tR:pn fk en=true)(bp:rH fk en=true):EX X Y:=by
 refine⟨λi ob hu q aS l0=> ?_,λn aI=> ?_⟩
 .rcases kD.xq i ob hu with hw|⟨ids,fq,s,h1,sh,av,aW⟩
  .rcases jO.rd q aS with h|h
   .rcases qU aY hw h with h|⟨h,_⟩
    all_goals simp_all
   .rcases qU aY hw h with h|⟨h,_⟩
    all_goals simp_all
  .obtain⟨k1,k2,fX⟩:=B2 tR h1;rcases fX with fX|⟨fX,jn,qL,BQ⟩
   .rcases jO.rd q aS with h|h
    all_goals grind
   .obtain⟨v2,_⟩:=jO.v qL jn fX k1;grind[P2]
 .obtain⟨h1,sh⟩:=Jq bp (kD.len n aI);refine⟨λq aS=> ?_,λq aS=> ?_,?_⟩
  .rcases jO.rd q aS with h|h
   all_goals grind
  .rcases jO.ro q aS with h|⟨_,_,_,h,_⟩
   all_goals grind[ka.ca]
  .cases ak:X.len with
   |none=>rfl
   |some m=>grind[ka.len]
theorem ah6{X Y:il}{en fk:jc}(jO:ka X en)(kD:ka Y fk)(Jr:mC en.w (fk.r++fk.w)=true)(nC:mC fk.w en.r=true)(az:pn en fk=true)(tR:pn fk en=true)(bp:rH en fk=true)(P5:rH fk en=true):EY X Y:=by
 have vn:mC en.w fk.w=true:=by
  unfold mC at Jr⊢;grind
 have E1:mC fk.w (en.r++en.w)=true:=by
  unfold mC at nC⊢;rw[aAx]at nC⊢;intro y wa;rw[aCX,aAc];exact⟨nC y wa,aAx.1 (ah5 vn) y wa⟩
 refine⟨P3 jO kD E1 az tR P5,P3 kD jO Jr tR az bp,?_,P4 jO kD E1 tR P5,P4 kD jO Jr az bp⟩;intro u hu v hv;have call:∀{f g:jc} {ids:List Nat} {fq s:aU},pn f g=true->f.c=some (ids,fq,s)->∀{i o n:Nat},i∈ids->(i,o,n)∈g.w->False:=by
  intro f g ids fq s h h1 i o n hi hw;exact(B2 h h1).2.1 _ hw hi
 cases u with
 |c i off x=>
  obtain⟨o,n,hw,dw⟩:=jO.E0 i off x hu;cases v with
  |c j dL bA=>
   obtain⟨o',n',jN,E2⟩:=kD.E0 j dL bA hv;rcases qU vn hw jN with h|⟨h1,sh,av⟩
   .exact .inl h
   .rcases dw with dw|dw
    .simp_all
    .rcases E2 with E2|E2
     .simp_all
     .right;grind
  |o j ob=>
   rcases kD.xq j ob hv with jN|⟨ids,fq,s,h1,sh,_⟩
   .rcases qU vn hw jN with h|⟨_,h,_⟩
    .exact h
    simp_all
   .rintro rfl;grind
  |n ob=>trivial
 |o i Js=>
  cases v with
  |c j dL bA=>
   obtain⟨o',n',jN,E2⟩:=kD.E0 j dL bA hv;rcases jO.xq i Js hu with hw|⟨ids,fq,s,h1,sh,_⟩
   .rcases qU vn hw jN with h|⟨h,_⟩
    .exact h
    simp_all
   .rintro rfl;grind
  |o j ob=>
   rcases jO.xq i Js hu with hw|⟨ids,fq,s,h1,sh,_⟩
   .rcases kD.xq j ob hv with jN|⟨ah7,P6,s',cw,ah8,_⟩
    .rcases qU vn hw jN with h|⟨h,_⟩
     .exact h
     simp_all
    .rintro rfl;grind
   .rcases kD.xq j ob hv with jN|⟨ah7,P6,s',cw,ah8,_⟩
    .rintro rfl;grind
    .have:=(B2 az h1).1;simp_all
  |n ob=>trivial
 |n Js=>
  cases v with
  |c j dL bA=>trivial
  |o j ob=>trivial
  |n ob=>
   cases ak:en.a with
   |none=>grind[ka.wn]
   |some m=>exact absurd (Jq bp ak).1 (kD.wn ob hv)
def aCI:=@List.set_set
theorem ayI(h:p:=by simp[I.ws]):p:=h
theorem ay6(h:p:=by grind[List.drop_eq_getElem_cons]):p:=h
section
variable {P:Program}{gl:Nat->List D}
def iJ(i:I)(E:il)(aP aT:ag):ag:=
 ⟨λt=>if t∈i.hw\/t∈E.k then aT.aR t else aP.aR t,λt=>if t∈i.gO then aT.bH t else aP.bH t,apps E.ws aP.s⟩
structure pL(P:Program)(gl:Nat->List D)(i:I)(st aT:ag)(E:il):Prop where
 aR:∀t,t∉i.hw->t∉E.k->aT.aR t=st.aR t
 bH:∀t,t∉i.gO->aT.bH t=st.bH t
 s:aT.s=apps E.ws st.s
 ai:iZ E st.s
 k:∀t,t∈E.k->t∈i.kl
 at_:∀u,u∈E.ws->u.at E
 r0:i.rs=false->E.rd=[]/\E.ro=[]/\E.len=none
 w0:i.ws=false->E.ws=[]/\E.len=none
 oR:∀(aP:ag) (bK:ag->Prop),(∀t,t∈i.rd->aP.aR t=st.aR t)->(∀t,t∈i.oC->aP.bH t=st.bH t)->iZ E aP.s->bK (iJ i E aP aT)->step (bx P gl) gl i aP bK
def l6(P:Program)(gl:Nat->List D)(i:I):Prop:=∀(st:ag) (K:ag->Prop),step (bx P gl) gl i st K->∃aT E,K aT/\pL P gl i st aT E/\ka E (hc gl i st aT)
theorem tS{i:I}{E:il}{aP aT qT:ag}(h1:∀t,(if t∈i.hw\/t∈E.k then aT.aR t else aP.aR t)=qT.aR t)(sh:∀t,(if t∈i.gO then aT.bH t else aP.bH t)=qT.bH t)(av:apps E.ws aP.s=qT.s):
  iJ i E aP aT=qT:=by
 obtain⟨a,b,c⟩:=qT;simp[iJ,ag.mk.injEq];simp_all
theorem zu:ka {} {}:=⟨axX,axX,axX,rfl,axX,axX,axX,axX,axX⟩
theorem ah9{i:I}(sh:rM i=false)(ax:i.rs=false)(aq:i.kl=[])(bh:∀st aT,hc gl i st aT={}):l6 P gl i:=by
 intro st K h;obtain⟨aT,h1,bw,a2,a3,a4⟩:=ahZ sh ax st K h;have hw:i.wr=i.hw:=by grind[I.wr]
 have sj:i.ws=false:=by
  cases sj:i.ws with
  |false=>rfl
  |true=>
   have:i.rs=true:=by cases i<;>simp[I.ws,I.rs]at sj⊢
   simp_all
 refine⟨aT,{},h1,⟨λt aE _=>bw t axY,a2,a3 sj,⟨axX,axX,axX⟩,axX,axX,λ_=>⟨rfl,rfl,rfl⟩,λ_=>⟨rfl,rfl⟩,?_⟩,by grind[zu]⟩;intro aP bK aj aF _ hf;refine a4 aP bK ⟨aj,aF,axY⟩ ?_;grind[mix,iJ,apps]
theorem kb{i:I}{st aP:ag}(h:∀t,t∈i.rd->aP.aR t=st.aR t){x:O}(ak:∀t,t∈x.slots->t∈i.rd):aH.aL gl aP x=aH.aL gl st x:=by
 cases x with
 |t n=>exact h n (ak n (by simp[O.slots]))
 |c v=>rfl
 |g n=>rfl
theorem pL.sk{i:I}{d:Nat}{v:ah}{E:il}{st:ag}(vp:i.rs=true)(mN:i.ws=false->E.ws=[]/\E.len=none)(hw:i.hw=[d])(au:i.gO=[])(aq:E.k=[])(ai:iZ E st.s)(j':∀u,u∈E.ws->u.at E)
  (oR:∀(aP:ag) (bK:ag->Prop),(∀t,t∈i.rd->aP.aR t=st.aR t)->iZ E aP.s->bK ({aP with s:=apps E.ws aP.s}.set d v)->step (bx P gl) gl i aP bK):
  pL P gl i st ({st with s:=apps E.ws st.s}.set d v) E:=by
 refine⟨λt aE _=> ?_,λt _=>rfl,rfl,ai,axY,j',λh=>axY,mN,λaP bK aj _ aZ hf=>oR aP bK aj aZ ?_⟩
 .simp_all[ag.set,dh]
 .have:iJ i E aP ({st with s:=apps E.ws st.s}.set d v)={aP with s:=apps E.ws aP.s}.set d v:=by
   refine tS (λt=> ?_) (λt=>by grind[ag.set]) rfl;simp_all[ag.set,dh]
  simp_all
theorem Jt{s:aU}{i:Nat}{ob:b9}(h:s.getD i .dead=ob)(aY:ob≠.dead):s[i]?=some ob:=axZ
theorem qV{s:aU}{i:Nat}{ob:b9}(h:s[i]?=some ob):s.getD i .dead=ob:=axY
theorem ah'{cs gC:List ah}{off n:Nat}{ai:Bool}(h:(gC.drop off).take n=(cs.drop off).take n)(ay:(ai||Nat.beq n 1)=true)(h1:off+n<=cs.length)(sh:off+n<=gC.length):valOf gC off n ai=valOf cs off n ai:=by
 unfold valOf;cases ai with
 |true=>simp_all
 |false=>
  obtain rfl:n=1:=aAn ay;have aj:(cs.drop off).take 1=[cs.getD off .undef]:=ay6;have aF:(gC.drop off).take 1=[gC.getD off .undef]:=ay6;simp_all
theorem aia{d n:Nat}{ai:Bool}{x:O}:l6 P gl (.aI d x n ai):=by
 intro st K h;simp only[step]at h;split at h
 .rename_i i off aj;split at h
  .rename_i cs aF;obtain⟨aC,h⟩:=h;simp only[aAc]at aC;have hle:=aAr aC.1;have hlen:((cs.drop off).take n).length=n:=axZ;refine⟨_,{rd:=[(i,off,(cs.drop off).take n)]},h,.sk (E:={rd:=[(i,off,(cs.drop off).take n)]}) rfl (λ_=>⟨rfl,rfl⟩) rfl rfl rfl ⟨?_,axX,axX⟩ axX λaP bK aZ bP aq=> ?_,?_⟩
   .intro q aS;simp at aS;subst aS;exact⟨cs,Jt aF axX,axY,axX⟩
   .obtain⟨gC,f1,f2,f3⟩:=bP.rd _ (aAF.2 rfl);simp[hlen]at f1 f2 f3;have hv:=ah' f3 aC.2 hle f2;simp only[step,kb (gl:=gl) aZ (x:=x) (λt aE=>aE),aj,qV f1,ik];refine⟨axY,?_⟩;rw[hv];exact aq
   .simp only[hc,aj,aF];refine⟨?_,axX,axX,rfl,axX,axX,axX,axX,λ_ _ _ _=>⟨λq aS=>aS,rfl⟩⟩;simp_all
  .exact h.elim
 .rename_i cs off aj;obtain⟨aC,h⟩:=h;refine⟨_,{},h,.sk (E:={}) rfl (λ_=>⟨rfl,rfl⟩) rfl rfl rfl ⟨axX,axX,axX⟩ axX λaP bK aZ bP aq=> ?_,?_⟩
  .simp only[step,kb (gl:=gl) aZ (x:=x) (λt aE=>aE),aj,ik];exact⟨aC,aq⟩
  grind[hc,zu]
 .exact h.elim
theorem aib{d:Nat}{x:O}:l6 P gl (.aE d x):=by
 intro st K h;simp[step]at h;split at h
 .rename_i i off aj;split at h
  .rename_i cs aF;obtain⟨aC,h⟩:=h;have aA:off<cs.length:=axY;have avr:(cs.drop off).take 1=[cs.getD off .undef]:=ay6;have xt:∀(s2:aU) (gC:List ah),s2[i]?=some (.box gC)->apps [cL.c i off .undef] s2=s2.set i (.box (gC.set off .undef)):=by
    grind[apps,cL.app]
   have fm:iZ {rd:=[(i,off,[cs.getD off .undef])],ws:=[cL.c i off .undef]} st.s:=by
    refine⟨?_,axX,axX⟩;intro q aS;simp only[aAF]at aS;subst aS;exact⟨cs,Jt aF axX,axZ,axW⟩
   refine⟨_,{rd:=[(i,off,[cs.getD off .undef])],ws:=[.c i off .undef]},?_,.sk (v:=cs.getD off .undef) (E:={rd:=[(i,off,[cs.getD off .undef])],ws:=[.c i off .undef]}) rfl ayI rfl rfl rfl fm ?_ λaP bK aZ bP aq=> ?_,?_⟩
   .grind
   .intro u hu;simp at hu;subst hu;exact⟨_,aAF.2 rfl,rfl,aAd _,axX⟩
   .obtain⟨gC,f1,f2,f3⟩:=bP.rd _ (aAF.2 rfl);simp at f1 f2 f3;have fF:off<gC.length:=axW;have avs:(gC.drop off).take 1=[gC.getD off .undef]:=ay6;have hv:gC.getD off .undef=cs.getD off .undef:=axY;simp[step,kb (gl:=gl) aZ (x:=x) (λt aE=>aE),aj,qV f1,ik];simp_all
   .simp[hc,aj];refine⟨?_,axX,axX,rfl,?_,axX,axX,axX,axX⟩;all_goals grind
  .exact h.elim
 .exact h.elim
def oS(i:Nat):Nat->List ah->List cL
 |_,[]=>[]
 |off,v::l=>.c i off v::oS i (off+1) l
theorem Ju{i:Nat}:∀{l:List ah} {off:Nat} {u:cL},u∈oS i off l->∃dL v,u=.c i dL v/\off<=dL/\dL<off+l.length
 |[],_,_,h=>by grind[oS]
 |v::l,off,u,h=>by
  simp[oS,aAs]at h;rcases h with rfl|h
  .simp
  .obtain⟨dL,v',h1,sh,av⟩:=Ju h;exact⟨dL,v',h1,axW,ax7⟩
theorem Jv{i:Nat}:∀{l:List ah} {off:Nat} {s:aU} {cs:List ah},s[i]?=some (.box cs)->apps (oS i off l) s=s.set i (.box (putCells cs off l))
 |[],off,s,cs,h=>by
  grind[oS,apps,putCells,H8]
 |v::l,off,s,cs,h=>by
  have hi:=(aBk.1 h).1;simp only[oS,apps,putCells,cL.app,qV h];rw[Jv (cs:=cs.set off v) (by rw[aAW hi]),aCI]
theorem ayJ(h:p:=by simp[hc]):p:=h
theorem E3{st:ag}{x:O}{t:Nat}(h:t∈kR st x):t∈x.slots:=by
 cases x with
 |t s=>
  grind[kR,O.slots]
 |c v=>grind[kR]
 |g n=>grind[kR]
theorem E4{st:ag}{x:O}{t:Nat}(h:t∉kR st x):(kill st x).aR t=st.aR t:=by
 cases x with
 |t s=>
  simp[kR,kill]at h⊢;split at h;all_goals simp_all[ag.set,dh]
 |c v=>rfl
 |g n=>rfl
theorem Jw{st aP:ag}{x:O}{t:Nat}(h:∀t,t∈x.slots->aP.aR t=st.aR t):(if t∈kR st x then(kill st x).aR t else aP.aR t)=(kill aP x).aR t:=by
 have aq:kR aP x=kR st x:=by
  cases x with
  |t s=>grind[kR,O.slots]
  |c v=>rfl
  |g n=>rfl
 grind[PO,E3,E4]
theorem aic{d:Nat}{x:O}:l6 P gl (.e2 d x):=by
 intro st K h;refine⟨_,{k:=kR st x},h,⟨λt aE aq=> ?_,λt _=>by simp[ag.set,sg],by simp[ag.set,vm,apps],⟨axX,axX,axX⟩,λt aE=>E3 aE,axX,λ_=>⟨rfl,rfl,rfl⟩,λ_=>⟨rfl,rfl⟩,λaP bK aj aF _ hf=> ?_⟩,?_⟩
 .simp_all[I.hw,I.dst,ag.set,dh,E4]
 .have e:=kb (gl:=gl) aj (x:=x) (λt aE=>aE);have:iJ (.e2 d x) {k:=kR st x} aP ((kill st x).set d (aL gl st x))=(kill aP x).set d (aL gl aP x):=by
   refine tS (λt=> ?_) (λt=>by simp[ag.set,sg,I.gO]) (by simp[ag.set,vm,apps]);simp[I.hw,I.dst,aBM,aBN,aAF,ag.set,dh,e];by_cases h1:t=d
   .grind
   .simp[h1,false_or,aAC];exact Jw aj
  rw[this]at hf;exact hf
 .exact⟨axX,axX,axX,rfl,axX,axX,axX,ayJ,axX⟩
theorem aid{t off n:Nat}{x y:O}:l6 P gl (.ls x t off y n):=by
 intro st K h;simp[step]at h;split at h
 .rename_i ek dL cs aj aF;obtain⟨aC,h⟩:=h;refine⟨_,{k:=kR st y},h,⟨λu hu aq=> ?_,λu hu=> ?_,by simp[ag.dX,vm,apps],⟨axX,axX,axX⟩,λt aE=>E3 aE,axX,λ_=>⟨rfl,rfl,rfl⟩,λ_=>⟨rfl,rfl⟩,λaP bK bw a2 _ hf=> ?_⟩,?_⟩
  .simp_all[ag.dX,E4]
  .simp_all[I.gO,ag.dX,dh,sg]
  .have e:=a2 t ayH;have e':=kb (gl:=gl) bw (x:=x) (λt aE=>aAB _ aE);have B0:=kb (gl:=gl) bw (x:=y) (λt aE=>aAN _ aE);have:iJ (.ls x t off y n) {k:=kR st y} aP ((kill st y).dX t (putCells cs off (cellsOf (aL gl st y))))=(kill aP y).dX t (putCells cs off (cellsOf (aL gl st y))):=by
    refine tS (λu=> ?_) (λu=> ?_) (by simp[ag.dX,vm,apps])
    .simp[I.hw,I.dst,Option.toList_none,aBN,aAO,false_or,ag.dX];exact Jw λu hu=>bw u (aAN _ hu)
    simp_all[I.gO,ag.dX,dh,sg]
   rw[this]at hf;simp[step,e,e',B0,aj,aF];exact⟨aC,hf⟩
  .exact⟨axX,axX,axX,rfl,axX,axX,axX,ayJ,axX⟩
 .exact h.elim
theorem aie{n:Nat}{x y:O}:l6 P gl (.hs x y n):=by
 intro st K h;simp[step]at h;split at h
 .rename_i i off aj;split at h
  .rename_i cs aF;obtain⟨aC,h⟩:=h;have oG:=aC;simp only[aAc]at oG;have ay:=aAn oG.1.1;have hle:=aAr oG.1.2;have hlen:((cs.drop off).take n).length=n:=axZ;refine⟨_,{rd:=[(i,off,(cs.drop off).take n)],ws:=oS i off (cellsOf (aL gl st y)),k:=kR st y},h,⟨λu hu aq=>E4 aq,λu hu=>by simp[sg],?_,⟨?_,axX,axX⟩,λt aE=>E3 aE,?_,by simp[I.rs],ayI,λaP bK bw a2 a3 hf=> ?_⟩,?_⟩
   .grind[Jv]
   .intro q aS;simp at aS;subst aS;exact⟨cs,Jt aF axX,axY,axX⟩
   .intro u hu;obtain⟨dL,v,rfl,h1,sh⟩:=Ju hu;refine⟨_,aAF.2 rfl,rfl,h1,?_⟩;simp_all
   .obtain⟨gC,f1,f2,f3⟩:=a3.rd _ (aAF.2 rfl);have e':=kb (gl:=gl) bw (x:=x) (λt aE=>aAB _ aE);have B0:=kb (gl:=gl) bw (x:=y) (λt aE=>aAN _ aE);have:iJ (.hs x y n) {rd:=[(i,off,(cs.drop off).take n)],ws:=oS i off (cellsOf (aL gl st y)),k:=kR st y} aP {kill st y with s:=st.s.set i (.box (putCells cs off (cellsOf (aL gl st y))))}={kill aP y with s:=aP.s.set i (.box (putCells gC off (cellsOf (aL gl st y))))}:=by
     refine tS (λu=> ?_) (λu=>by simp[I.gO,sg]) (Jv f1);simp[I.hw,I.dst,Option.toList_none,aBN,aAO,false_or];exact Jw λu hu=>bw u (aAN _ hu)
    rw[this]at hf;simp only[step,e',B0,aj,qV f1];refine⟨?_,hf⟩;simp_all
   .simp[hc,aj];refine⟨?_,axX,axX,rfl,?_,?_,?_,axX,axX⟩;all_goals grind[Ju]
  .exact h.elim
 .exact h.elim
theorem avt{a b:ah}(h:a=b):hq a=hq b:=by rw[h]
theorem aif{d:Nat}{ai ok:Bool}{ks:List Nat}{m k:O}{z:ah}:l6 P gl (.aJ d ai ks m k z ok):=by
 intro st K h;have em:∀{aP:ag},(∀t,t∈(I.aJ d ai ks m k z ok).rd->aP.aR t=st.aR t)->aL gl aP m=aL gl st m/\aL gl aP k=aL gl st k:=λe=>⟨kb (gl:=gl) e (λt aE=>aAB _ aE),kb (gl:=gl) e (λt aE=>aAN _ aE)⟩;have xu:(∀i,aL gl st m≠.map i)->∀aT,ka {} (hc gl (.aJ d ai ks m k z ok) st aT):=by
  grind[hc,zu]
 simp[step]at h;split at h
 .exact h.elim
 .rename_i ho b2;obtain⟨aC,h⟩:=h;split at h
  .rename_i aj;refine⟨_,{},h,.sk (E:={}) rfl (λ_=>⟨rfl,rfl⟩) rfl rfl rfl ⟨axX,axX,axX⟩ axX λaP bK aZ _ aq=> ?_,xu axY _⟩;simp[step,(em aZ).1,(em aZ).2,b2,aj];exact⟨aC,aq⟩
  .rename_i kl vl aj;split at h
   .rename_i aF;refine⟨_,{},h,.sk (E:={}) rfl (λ_=>⟨rfl,rfl⟩) rfl rfl rfl ⟨axX,axX,axX⟩ axX λaP bK aZ _ aq=> ?_,xu axY _⟩;simp[step,(em aZ).1,(em aZ).2,b2,aj,aF];exact⟨aC,aq⟩
   .rename_i j aF;split at h
    .rename_i v bP;refine⟨_,{},h,.sk (E:={}) rfl (λ_=>⟨rfl,rfl⟩) rfl rfl rfl ⟨axX,axX,axX⟩ axX λaP bK aZ _ aq=> ?_,xu axY _⟩;simp[step,(em aZ).1,(em aZ).2,b2,aj,aF,bP];exact⟨aC,aq⟩
    .exact h.elim
   .exact h.elim
  .rename_i i aj;split at h
   .rename_i es cK;have dB:iZ {ro:=[(i,.map es)]} st.s:=by
     refine⟨axX,?_,axX⟩;grind
    have B3:∀aT,ka {ro:=[(i,.map es)]} (hc gl (.aJ d ai ks m k z ok) st aT):=by
     intro aT;simp[hc,aj];refine⟨axX,?_,axX,rfl,axX,axX,axX,axX,axX⟩;simp
    split at h
    .rename_i aF;refine⟨_,{ro:=[(i,.map es)]},h,.sk (E:={ro:=[(i,.map es)]}) rfl (λ_=>⟨rfl,rfl⟩) rfl rfl rfl dB axX λaP bK aZ dO aq=> ?_,B3 _⟩;have:=qV (dO.ro _ (aAF.2 rfl));simp only[step,(em aZ).1,(em aZ).2,b2,aj,this,aF];exact⟨aC,aq⟩
    .rename_i j aF;split at h
     .rename_i v bP;refine⟨_,{ro:=[(i,.map es)]},h,.sk (E:={ro:=[(i,.map es)]}) rfl (λ_=>⟨rfl,rfl⟩) rfl rfl rfl dB axX λaP bK aZ dO aq=> ?_,B3 _⟩;have:=qV (dO.ro _ (aAF.2 rfl));simp only[step,(em aZ).1,(em aZ).2,b2,aj,this,aF,bP];exact⟨aC,aq⟩
     .exact h.elim
    .exact h.elim
   .exact h.elim
  .exact h.elim
theorem pL.aih{i:I}{E:il}{st:ag}(vp:i.rs=true)(mN:i.ws=true)(hw:i.dst=none/\i.hw=[])(au:i.gO=[])(aq:E.k=[])(ai:iZ E st.s)(j':∀u,u∈E.ws->u.at E)
  (oR:∀(aP:ag) (bK:ag->Prop),(∀t,t∈i.rd->aP.aR t=st.aR t)->iZ E aP.s->bK {aP with s:=apps E.ws aP.s}->step (bx P gl) gl i aP bK):
  pL P gl i st {st with s:=apps E.ws st.s} E:=by
 refine⟨λt aE _=>rfl,λt _=>rfl,rfl,ai,axY,j',λh=>axY,λh=>axY,λaP bK aj _ aZ hf=>oR aP bK aj aZ ?_⟩;simp_all[iJ]
theorem aii{ai:Bool}{ks:List Nat}{m k x:O}:l6 P gl (.oz ai ks m k x):=by
 intro st K h;simp[step]at h;split at h
 .rename_i i ho aj b2;split at h
  .rename_i es aF;split at h
   .rename_i j bP;obtain⟨aC,h⟩:=h;have xt:∀{s:aU},apps [cL.o i (.map (np es ho (cT (aL gl st x)) j))] s=s.set i (.map (np es ho (cT (aL gl st x)) j)):=rfl;refine⟨_,{ro:=[(i,.map es)],ws:=[.o i (.map (np es ho (cT (aL gl st x)) j))]},h,.aih (E:={ro:=[(i,.map es)],ws:=[.o i (.map (np es ho (cT (aL gl st x)) j))]}) rfl rfl ⟨rfl,rfl⟩ rfl rfl ⟨axX,?_,axX⟩ ?_ λaP bK aZ dO aq=> ?_,?_⟩
    .grind
    .intro u hu;simp at hu;subst hu;exact⟨_,aAF.2 rfl,rfl⟩
    .have:=qV (dO.ro _ (aAF.2 rfl));have f1:=kb (gl:=gl) aZ (x:=m) (λt aE=>aAB _ (aAB _ aE));have f2:=kb (gl:=gl) aZ (x:=k) (λt aE=>aAB _ (aAN _ aE));have f3:=kb (gl:=gl) aZ (x:=x) (λt aE=>aAN _ aE);simp only[step,f1,f2,f3,b2,aj,this,bP];exact⟨aC,aq⟩
    .simp[hc,aj];refine⟨axX,?_,axX,rfl,axX,?_,axX,axX,axX⟩;all_goals simp
   .exact h.elim
  .exact h.elim
 .exact h.elim
def aCc:=@List.map_congr_left
theorem pL.tT{i:I}{U:(Nat->ah)->Nat->ah}{E:il}{st:ag}(vp:i.rs=true)(mN:i.ws=false->E.ws=[]/\E.len=none)(au:i.gO=[])(aq:E.k=[])
  (h1:∀(f:Nat->ah) t,t∉i.hw->U f t=f t) (sh:∀f f2 t,t∈i.hw->(∀t,t∈i.rd->f2 t=f t)->U f2 t=U f t) (ai:iZ E st.s) (j':∀u,u∈E.ws->u.at E)
  (oR:∀(aP:ag) (bK:ag->Prop),(∀t,t∈i.rd->aP.aR t=st.aR t)->iZ E aP.s->bK ⟨U aP.aR,aP.bH,apps E.ws aP.s⟩->step (bx P gl) gl i aP bK):
  pL P gl i st ⟨U st.aR,st.bH,apps E.ws st.s⟩ E:=by
 refine⟨λt aE _=>h1 _ t aE,λt _=>rfl,rfl,ai,axY,j',λh=>axY,mN,λaP bK aj _ aZ hf=>oR aP bK aj aZ ?_⟩;have:iJ i E aP ⟨U st.aR,st.bH,apps E.ws st.s⟩=⟨U aP.aR,aP.bH,apps E.ws aP.s⟩:=by
  refine tS (λt=> ?_) (λt=>axZ) rfl;grind
 simp_all
theorem aij{d sz:Nat}{xs:List O}:l6 P gl (.rF d sz xs):=by
 intro st K h;obtain⟨aC,h⟩:=h;refine⟨_,{len:=some st.s.length,ws:=[.n (.box (xs.map λx=>cellsOf (gP (aL gl st x))).flatten)]},h,.sk (E:={len:=some st.s.length,ws:=[.n (.box (xs.map λx=>cellsOf (gP (aL gl st x))).flatten)]}) rfl ayI rfl rfl rfl ⟨axX,axX,λn ay=>axY⟩ ?_ λaP bK aZ bP aq=> ?_,?_⟩
 .grind[cL.at]
 .have aI:=bP.len _ rfl;have hm:(xs.map λx=>cellsOf (gP (aL gl aP x)))=xs.map λx=>cellsOf (gP (aL gl st x)):=by
   refine aCc λx ak=> ?_;rw[kb (gl:=gl) aZ (x:=x) λt aE=>aCh.2 ⟨x,ak,aE⟩]
  simp only[step,hm,aI];exact⟨aC,aq⟩
 .refine⟨axX,axX,λn ay=>by grind[hc],rfl,axX,axX,ayJ,ayJ,axX⟩
theorem aik{d t e:Nat}:l6 P gl (.ak d t e):=by
 intro st K h;refine⟨_,{len:=some st.s.length,ws:=[.n (.hU t e [])]},h,.sk (E:={len:=some st.s.length,ws:=[.n (.hU t e [])]}) rfl ayI rfl rfl rfl ⟨axX,axX,λn ay=>axY⟩ ?_ λaP bK aZ bP aq=> ?_,?_⟩
 .grind[cL.at]
 .have aI:=bP.len _ rfl;simp[step,aI];exact aq
 .refine⟨axX,axX,λn ay=>by grind[hc],rfl,axX,axX,ayJ,ayJ,axX⟩
theorem avu{f:Nat->ah}{d:Option Nat}{v:ah}{t:Nat}:(match d with|some k=>cC f k v|none=>f) t=if d=some t then v else f t:=by
 cases d with
 |none=>simp
 |some k=>
  grind[dh]
theorem E5(aR:Nat->ah)(bH:Nat->Option (List ah))(s:aU)(d:Option Nat)(v:ah):(ag.mk aR bH s).dI d v=⟨λt=>if d=some t then v else aR t,bH,s⟩:=by
 cases d with
 |none=>simp[ag.dI]
 |some k=>
  simp[ag.dI,ag.set,ag.mk.injEq,aCn];grind[dh]
theorem pL.Jx{i:I}{d:Option Nat}{v:ah}{E:il}{st:ag}(vp:i.rs=true)(mN:i.ws=false->E.ws=[]/\E.len=none)(hw:i.hw=d.toList)(au:i.gO=[])(aq:E.k=[])(ai:iZ E st.s)(j':∀u,u∈E.ws->u.at E)
  (oR:∀(aP:ag) (bK:ag->Prop),(∀t,t∈i.rd->aP.aR t=st.aR t)->iZ E aP.s->bK ({aP with s:=apps E.ws aP.s}.dI d v)->step (bx P gl) gl i aP bK):
  pL P gl i st ({st with s:=apps E.ws st.s}.dI d v) E:=by
 rw[E5];refine .tT (U:=λf t=>if d=some t then v else f t) vp mN au aq ?_ ?_ ai j' λaP bK aj aZ hf=>oR aP bK aj aZ ?_;all_goals grind[E5]
theorem ail{d:Option Nat}{x:O}{z:List ah}:l6 P gl (.oA d x z):=by
 have hw:(I.oA d x z).hw=d.toList:=by simp[I.hw,I.dst]
 intro st K h;simp[step]at h;split at h
 .rename_i i off len cap sz aj;split at h
  .rename_i cs aF;obtain⟨aC,h⟩:=h;refine⟨_,{ro:=[(i,.box cs)],ws:=[.o i (.box (putCells cs off (List.replicate len z).flatten))]},h,.Jx (E:={ro:=[(i,.box cs)],ws:=[.o i (.box (putCells cs off (List.replicate len z).flatten))]}) rfl ayI hw rfl rfl ⟨axX,?_,axX⟩ ?_ λaP bK aZ bP aq=> ?_,?_⟩
   .grind
   .intro u hu;simp at hu;subst hu;exact⟨_,aAF.2 rfl,rfl⟩
   .have:=qV (bP.ro _ (aAF.2 rfl));simp only[step,kb (gl:=gl) aZ (x:=x) (λt aE=>aE),aj,this];exact⟨aC,aq⟩
   .simp[hc,aj];refine⟨axX,?_,axX,rfl,axX,?_,axX,axX,axX⟩;all_goals simp
  .exact h.elim
 .rename_i v cB;split at h
  .rename_i sz aj;refine⟨_,{},h,.Jx (E:={}) rfl axX hw rfl rfl ⟨axX,axX,axX⟩ axX λaP bK aZ bP aq=> ?_,?_⟩
   .simp[step,kb (gl:=gl) aZ (x:=x) (λt aE=>aE),aj];exact aq
   grind[hc,zu]
  .exact h.elim
def tU:List Nat->List b9->List cL
 |[],l=>l.map .n
 |_,[]=>[]
 |i::ids,o::l=>.o i o::tU ids l
theorem P7:∀{l:List b9} {s:aU},apps (l.map .n) s=s++l
 |[],s=>by simp[apps]
 |o::l,s=>by simp[aAP,apps,cL.app];rw[P7];simp
theorem Jy:∀{ids:List Nat} {l:List b9} {s:aU},ids.length<=l.length->apps (tU ids l) s=merge s ids l
 |[],l,s,_=>by
  grind[tU,P7,merge]
 |_::_,[],_,h=>axZ
 |i::ids,o::l,s,h=>by
  simp[tU,apps,cL.app,merge];exact Jy (by simpa using h)
theorem Jz:∀{ids:List Nat} {l:List b9} {u:cL},u∈tU ids l->(∃i ob,u=.o i ob/\∃k:Nat,ids[k]?=some i/\l[k]?=some ob)\/∃ob,u=.n ob
 |[],l,u,h=>by
  grind[tU]
 |_::_,[],u,h=>by grind[tU]
 |i::ids,o::l,u,h=>by
  simp[tU,aAs]at h;rcases h with rfl|h
  .exact .inl ⟨i,o,rfl,0,axX,axX⟩
  .rcases Jz h with⟨j,ob,rfl,k,h1,sh⟩|h
   .exact .inl ⟨j,ob,rfl,k+1,by simpa using h1,by simpa using sh⟩
   .exact .inr h
theorem aim{ids:List Nat}(h:nodupB ids=true){i k k':Nat}(h1:ids[k]?=some i)(sh:ids[k']?=some i):k=k':=by
 rw[<-BJ h h1,<-BJ h sh]
theorem ain{ids:List Nat}{s:aU}{l:List b9}{i k:Nat}{ob:b9}(aI:ids.length<=l.length)(ay:nodupB ids=true)(hs:∀j,j∈ids->j<s.length)(h1:ids[k]?=some i)(sh:l[k]?=some ob):
  (merge s ids l).getD i .dead=ob:=by
 have hi:=hs i (aAM h1);have aA:i<(merge s ids l).length:=by grind[IH]
 rcases II aI ay hs (aAj aA)with⟨k',av,aW⟩|⟨av,_⟩|⟨av,_⟩
 all_goals grind[aim]
theorem JA(s:aU):∀(n:Nat) (todo acc:List Nat) (i:Nat),i∈acc->i∈reach s n todo acc
 |0,_,acc,i,h=>by grind[reach]
 |_+1,[],acc,i,h=>by grind[reach]
 |n+1,j::todo,acc,i,h=>by
  simp[reach];cases dk j acc with
  |true=>exact JA s n _ _ i h
  |false=>exact JA s n _ _ i (aAB _ h)
theorem JB{s s2:aU}:∀(n:Nat) (todo acc:List Nat),(∀i,i∈reach s n todo acc->s2.getD i .dead=s.getD i .dead)->reach s2 n todo acc=reach s n todo acc
 |0,_,acc,h=>rfl
 |_+1,[],acc,h=>rfl
 |n+1,j::todo,acc,h=>by
  simp[reach]at h⊢;cases aK:dk j acc with
  |true=>
   rw[aK]at h;exact JB n _ _ h
  |false=>
   rw[aK]at h;have:=h j (JA s n _ _ j axX);rw[this];exact JB n _ _ h
theorem aio{f:Nat}{vs:List ah}{s:aU}{K:ah->aU->Prop}(h:kP (bx P gl) f vs s K):
  ∃r s' ws,K r s'/\s'=apps ws s/\
   (∀q,q∈(reach s (s.length+s.length+8) (vs.flatMap (refs depth)) []).map (λi=>(i,s.getD i .dead))->s[q.1]?=some q.2)/\
   (∀i ob,cL.o i ob∈ws->i∈reach s (s.length+s.length+8) (vs.flatMap (refs depth)) []/\s'.getD i .dead=ob)/\
   (∀i off v,cL.c i off v∉ws)/\
   ∀(s2:aU) (bK:ah->aU->Prop),s2.length=s.length->(∀i,i∈reach s (s.length+s.length+8) (vs.flatMap (refs depth)) []->s2.getD i .dead=s.getD i .dead)->bK r (apps ws s2)->kP (bx P gl) f vs s2 bK:=by
 obtain⟨aC,r,s',hv,hlen,ao⟩:=h;have oG:=aC;simp at oG;obtain⟨⟨⟨g1,g2⟩,g3⟩,g4⟩:=oG;have aA:∀i,i∈reach s (s.length+s.length+8) (vs.flatMap (refs depth)) []->i<s.length:=by
  simp_all[HA]
 have aI:=aAr hlen;refine⟨_,_,tU (reach s (s.length+s.length+8) (vs.flatMap (refs depth)) []) (s'.map (b9.ren (back (reach s (s.length+s.length+8) (vs.flatMap (refs depth)) []) s.length))),ao,(Jy axY).symm,?_,?_,?_,?_⟩
 .grind
 .grind[Jz,ain]
 .grind[Jz]
 .intro s2 bK dR rU hf;have ax:=JB (s.length+s.length+8) (vs.flatMap (refs depth)) [] rU;have hm:(reach s (s.length+s.length+8) (vs.flatMap (refs depth)) []).map (λi=>(s2.getD i .dead).ren λi=>lp i (reach s (s.length+s.length+8) (vs.flatMap (refs depth)) []))=(reach s (s.length+s.length+8) (vs.flatMap (refs depth)) []).map (λi=>(s.getD i .dead).ren λi=>lp i (reach s (s.length+s.length+8) (vs.flatMap (refs depth)) [])):=axY;have az:closed s2 (reach s (s.length+s.length+8) (vs.flatMap (refs depth)) []) vs=closed s (reach s (s.length+s.length+8) (vs.flatMap (refs depth)) []) vs:=by
   unfold closed;grind
  unfold kP;simp only[dR,ax,hm,az];refine⟨?_,r,s',hv,hlen,?_⟩;all_goals simp_all[Jy]
def aAX:=@List.mem_cons_self
theorem aip{st aP:ag}{x:O}(h:aL gl aP x=aL gl st x):jK gl aP x=jK gl st x:=by
 unfold jK;grind
theorem P8{d:Option Nat}{f:O}{args:List O}{st:ag}{K:ag->Prop}(tJ:Nat)(vs:List ah)(h:kP (bx P gl) tJ vs st.s λr s'=>K ({st with s:=s'}.dI d r))
  (eh:∀(aP:ag) (bK:ag->Prop),(∀t,t∈(I.dH d f args).rd->aP.aR t=st.aR t)->step (bx P gl) gl (.dH d f args) aP bK=kP (bx P gl) tJ vs aP.s λr s'=>bK ({aP with s:=s'}.dI d r))
  (JC:∀aT,hc gl (.dH d f args) st aT=DU st aT vs):∃aT E,K aT/\pL P gl (.dH d f args) st aT E/\ka E (hc gl (.dH d f args) st aT):=by
 obtain⟨r,s',ws,ao,rfl,xr,aiq,avv,E6⟩:=aio h;refine⟨_,{ro:=(reach st.s (st.s.length+st.s.length+8) (vs.flatMap (refs depth)) []).map (λi=>(i,st.s.getD i .dead)),len:=some st.s.length,ws:=ws},ao,
  .Jx (E:={ro:=(reach st.s (st.s.length+st.s.length+8) (vs.flatMap (refs depth)) []).map (λi=>(i,st.s.getD i .dead)),len:=some st.s.length,ws:=ws}) rfl ayI (by simp[I.hw,I.dst]) rfl rfl ⟨axX,xr,λn ay=>axZ⟩ ?_ λaP bK aZ bP aq=> ?_,?_⟩
 .intro u hu;cases u with
  |c i off v=>grind
  |o i ob=>exact⟨(i,st.s.getD i .dead),aAR.2 ⟨i,(aiq i ob hu).1,rfl⟩,rfl⟩
  |n ob=>simp[cL.at]
 .rw[eh aP bK aZ];refine E6 aP.s _ (bP.len _ rfl) (λi hi=> ?_) aq;exact qV (bP.ro (i,st.s.getD i .dead) (aAR.2 ⟨i,hi,rfl⟩))
 .rw[JC];unfold DU;have hs:(({st with s:=apps ws st.s}:ag).dI d r).s=apps ws st.s:=by rw[E5]
  refine⟨axX,?_,λn ay=>axW,rfl,?_,?_,axX,axX,axX⟩;all_goals grind
theorem air{d:Option Nat}{f:O}{args:List O}:l6 P gl (.dH d f args):=by
 intro st K h;have em:∀{aP:ag},(∀t,t∈(I.dH d f args).rd->aP.aR t=st.aR t)->aL gl aP f=aL gl st f/\args.map (jK gl aP)=args.map (jK gl st):=by
  intro aP e;refine⟨kb (gl:=gl) e (λt aE=>aAB _ aE),aCc λx ak=>aip (kb (gl:=gl) e (λt aE=>aAN _ (aCh.2 ⟨x,ak,aE⟩)))⟩
 simp only[step]at h;split at h
 .rename_i tJ aj;exact P8 tJ _ h (λaP bK e=>by simp[step,(em e).1,(em e).2,aj]) (λaT=>by grind[hc])
 .rename_i tJ a c aj;exact P8 tJ _ h (λaP bK e=>by simp[step,(em e).1,(em e).2,aj]) (λaT=>by grind[hc])
 .exact h.elim
def h7(st:ag)(v:ah):List (Nat×b9):=match v with
 |.aN i _ _ _ _=>[(i,st.s.getD i .dead)]
 |_=>[]
theorem zv{st aP:ag}{v:ah}{sz:Nat}(h:∀q,q∈h7 st v->aP.s[q.1]?=some q.2):qp aP v sz=qp st v sz:=by
 cases v<;>simp[qp];simp_all[h7]
theorem P9{st aP:ag}{v:ah}(h:∀q,q∈h7 st v->aP.s[q.1]?=some q.2):qq aP v=qq st v:=by
 cases v<;>simp[qq];simp_all[h7]
theorem B4{st:ag}{v:ah}{sz:Nat}{p:List ah×Nat}(h:qp st v sz=some p):∀q,q∈h7 st v->st.s[q.1]?=some q.2:=by
 intro q aS;cases v<;>simp[h7,aAO,aAF]at aS;grind[qp]
theorem P'{st:ag}{v:ah}{p:Nat×List D}(h:qq st v=some p):∀q,q∈h7 st v->st.s[q.1]?=some q.2:=by
 intro q aS;cases v<;>simp[h7,aAO,aAF]at aS;grind[qq]
theorem B5{st:ag}{v:ah}{q:Nat×b9}(h:q∈h7 st v):(q.1,0,big)∈qt v:=by
 cases v<;>simp[h7,aAO,aAF]at h;grind[qt]
theorem JD{i:I}{nw rw:Bool}{d s:Nat}{x:O}{sz b1:Nat}(kC:i.rs=true)(sj:i.ws=true)(au:i.gO=[])(hw:i.hw=[d,s])(j5:i.rd=s::x.slots)
  (eh:∀(st:ag) (K:ag->Prop),step (bx P gl) gl i st K=hG (bx P gl) gl nw rw d s x sz b1 st K)
  (JC:∀st aT,hc gl i st aT=match st.aR s with
   |.aN i _ _ _ _=>{r:=qt (aL gl st x),w:=[(i,0,big)],a:=some st.s.length}
   |_=>{r:=qt (aL gl st x),a:=some st.s.length}):l6 P gl i:=by
 intro st K h;rw[eh]at h;have h1:∀{v:ah} (f:Nat->ah) t,t∉i.hw->cC f d v t=f t:=by
  intro v f t aE;simp_all[dh]
 have sh:∀{v:ah} (f f2:Nat->ah) t,t∈i.hw->(∀t,t∈i.rd->f2 t=f t)->cC f2 d v t=cC f d v t:=by
  intro v f f2 t aE hh;rw[hw]at aE;simp[dh];grind
 have k1:∀{v:ah} (f:Nat->ah) t,t∉i.hw->cC (cC f s .undef) d v t=f t:=by
  intro v f t aE;rw[hw]at aE;simp at aE;simp[dh,aE.1,aE.2,aAC]
 have k2:∀{v:ah} (f f2:Nat->ah) t,t∈i.hw->(∀t,t∈i.rd->f2 t=f t)->cC (cC f2 s .undef) d v t=cC (cC f s .undef) d v t:=by
  intro v f f2 t aE _;rw[hw]at aE;simp[dh];grind
 have es:∀{aP:ag},(∀t,t∈i.rd->aP.aR t=st.aR t)->aP.aR s=st.aR s/\aL gl aP x=aL gl st x:=λe=>⟨e s axZ,kb (gl:=gl) e (λt aE=>axZ)⟩;have mN:∀{E:il},i.ws=false->E.ws=[]/\E.len=none:=λh=>axY;unfold hG at h;split at h
 .rename_i ej l aj;have tV:∀aT,hc gl i st aT={r:=qt (aL gl st x),a:=some st.s.length}:=λaT=>axZ;have xu:∀aT,ka {ro:=h7 st (aL gl st x)} (hc gl i st aT):=by
   intro aT;rw[tV];exact⟨axX,λq aS=>.inl (aAB _ (B5 aS)),axX,rfl,axX,axX,axX,axX,axX⟩
  cases zw:nw&&l.isEmpty with
  |true=>
   rw[zw]at h;simp[aAg]at h;split at h
   .rename_i cs aF;refine⟨_,{ro:=h7 st (aL gl st x)},h,.tT (U:=λf=>cC f d (.own sz [])) (E:={ro:=h7 st (aL gl st x)}) kC mN au rfl h1 sh ⟨axX,B4 aF,axX⟩ axX λaP bK aZ bP aq=> ?_,xu _⟩;rw[eh];unfold hG;simp[(es aZ).1,(es aZ).2,aj,zw,zv bP.ro,aF,aAg];exact aq
   .rename_i cs k cB aF;cases rw with
    |true=>
     simp at h;split at h;rotate_left
     .exact h.elim
     rename_i gC cK;obtain⟨aC,h⟩:=h;refine⟨_,{ro:=h7 st (aL gl st x)},h,.tT (U:=λf=>cC f d (.raw sz k gC)) (E:={ro:=h7 st (aL gl st x)}) kC mN au rfl h1 sh ⟨axX,B4 aF,axX⟩ axX λaP bK aZ bP aq=> ?_,xu _⟩;rw[eh];unfold hG;simp[(es aZ).1,(es aZ).2,aj,zw,zv bP.ro,aF,aAg,cK];cases k with
     |zero=>grind
     |succ k=>exact⟨aC,aq⟩
    |false=>
     simp at h;obtain⟨aC,h⟩:=h;refine⟨_,{ro:=h7 st (aL gl st x),len:=some st.s.length,ws:=[.n (.box cs)]},h,.tT (U:=λf=>cC f d (.aN st.s.length 0 k k sz)) (E:={ro:=h7 st (aL gl st x),len:=some st.s.length,ws:=[.n (.box cs)]}) kC mN au rfl h1 sh ⟨axX,B4 aF,λn ay=>axZ⟩ ?_ λaP bK aZ bP aq=> ?_,?_⟩
     .grind[cL.at]
     .rw[eh];unfold hG;simp[(es aZ).1,(es aZ).2,aj,zw,zv bP.ro,aF,aAg,bP.len _ rfl];cases k with
      |zero=>grind
      |succ k=>exact⟨aC,aq⟩
     .rw[tV];exact⟨axX,λq aS=>.inl (aAB _ (B5 aS)),λn ay=>axW,rfl,axX,axX,axX,axX,axX⟩
   .exact h.elim
  |false=>
   rw[zw]at h;simp[aAw]at h;split at h
   .rename_i dt l2 aF;obtain⟨aC,h⟩:=h;refine⟨_,{ro:=h7 st (aL gl st x)},h,.tT (U:=λf=>cC (cC f s .undef) d (.own sz (l++l2))) (E:={ro:=h7 st (aL gl st x)}) kC mN au rfl k1 k2 ⟨axX,P' aF,axX⟩ axX λaP bK aZ bP aq=> ?_,xu _⟩;rw[eh];unfold hG;simp[(es aZ).1,(es aZ).2,aj,zw,P9 bP.ro,aF,aAw];exact⟨aC,aq⟩
   .exact h.elim
 .rename_i ej n cs aj;have tV:∀aT,hc gl i st aT={r:=qt (aL gl st x),a:=some st.s.length}:=λaT=>axZ;split at h
  .rename_i us k aF;split at h
   .rename_i gC cK;obtain⟨aC,h⟩:=h;refine⟨_,{ro:=h7 st (aL gl st x)},h,.tT (U:=λf=>cC (cC f s .undef) d (.raw sz (n+k) (cs++gC))) (E:={ro:=h7 st (aL gl st x)}) kC mN au rfl k1 k2 ⟨axX,B4 aF,axX⟩ axX λaP bK aZ bP aq=> ?_,?_⟩
    .rw[eh];unfold hG;simp[(es aZ).1,(es aZ).2,aj,zv bP.ro,aF,cK];exact⟨aC,aq⟩
    .rw[tV];exact⟨axX,λq aS=>.inl (aAB _ (B5 aS)),axX,rfl,axX,axX,axX,axX,axX⟩
   .exact h.elim
  .exact h.elim
 .rename_i j off len cap ej aj;have tV:∀aT,hc gl i st aT={r:=qt (aL gl st x),w:=[(j,0,big)],a:=some st.s.length}:=λaT=>axZ;split at h
  .rename_i cs us k cK aF;obtain⟨aC,h⟩:=h;have xr:∀q,q∈(j,b9.box cs)::h7 st (aL gl st x)->st.s[q.1]?=some q.2:=by
    intro q aS;rcases aAs.1 aS with rfl|aS
    all_goals grind[B4]
   have u2:∀q,q∈(j,b9.box cs)::h7 st (aL gl st x)->(q.1,0,big)∈qt (aL gl st x)++[(j,0,big)]:=by
    intro q aS;rcases aAs.1 aS with rfl|aS
    all_goals grind[B5]
   cases iF:Nat.ble (len+k) cap with
   |true=>
    rw[iF]at h;obtain⟨fD,h⟩:=h;refine⟨_,{ro:=(j,.box cs)::h7 st (aL gl st x),ws:=[.o j (.box (putCells cs (off+len*sz) us))]},h,.tT (U:=λf=>cC f d (.aN j off (len+k) cap sz)) (E:={ro:=(j,.box cs)::h7 st (aL gl st x),ws:=[.o j (.box (putCells cs (off+len*sz) us))]}) kC mN au rfl h1 sh ⟨axX,xr,axX⟩ ?_ λaP bK aZ bP aq=> ?_,?_⟩
    .intro u hu;simp[aAF]at hu;subst hu;exact⟨_,aAX,rfl⟩
    .rw[eh];unfold hG;have f1:=qV (bP.ro _ aAX);simp only at f1;simp only[(es aZ).1,(es aZ).2,aj,zv (λq aS=>bP.ro q (aBe _ aS)),aF,f1,iF];exact⟨aC,fD,aq⟩
    .rw[tV];refine⟨axX,λq aS=>.inl (u2 q aS),axX,rfl,axX,?_,axX,axX,axX⟩;simp
   |false=>
    rw[iF]at h;obtain⟨fD,h⟩:=h;refine⟨_,{ro:=(j,.box cs)::h7 st (aL gl st x),len:=some st.s.length,ws:=[.o j .dead,.n (.box (cs.take (len*sz)++us))]},h,.tT (U:=λf=>cC f d (.aN st.s.length 0 (len+k) (len+k) sz)) (E:={ro:=(j,.box cs)::h7 st (aL gl st x),len:=some st.s.length,ws:=[.o j .dead,.n (.box (cs.take (len*sz)++us))]}) kC mN au rfl h1 sh ⟨axX,xr,λn ay=>axZ⟩ ?_ λaP bK aZ bP aq=> ?_,?_⟩
    .intro u hu;simp only[aAs,aAO,aBo]at hu;grind[List.mem_cons_self,cL.at]
    .rw[eh];unfold hG;have f1:=qV (bP.ro _ aAX);simp only at f1;simp only[(es aZ).1,(es aZ).2,aj,zv (λq aS=>bP.ro q (aBe _ aS)),aF,f1,iF,bP.len _ rfl];exact⟨aC,fD,aq⟩
    .rw[tV];refine⟨axX,λq aS=>.inl (u2 q aS),λn ay=>axW,rfl,axX,?_,axX,axX,axX⟩;simp
  .exact h.elim
 .rename_i ej aj;have tV:∀aT,hc gl i st aT={r:=qt (aL gl st x),a:=some st.s.length}:=λaT=>axZ;split at h
  .rename_i dt l2 aF;obtain⟨aC,h⟩:=h;refine⟨_,{ro:=h7 st (aL gl st x)},h,.tT (U:=λf=>cC (cC f s .undef) d (iz sz l2)) (E:={ro:=h7 st (aL gl st x)}) kC mN au rfl k1 k2 ⟨axX,P' aF,axX⟩ axX λaP bK aZ bP aq=> ?_,?_⟩
   .rw[eh];unfold hG;simp only[(es aZ).1,(es aZ).2,aj,P9 bP.ro,aF];exact⟨aC,aq⟩
   .rw[tV];exact⟨axX,λq aS=>.inl (aAB _ (B5 aS)),axX,rfl,axX,axX,axX,axX,axX⟩
  .exact h.elim
 .exact h.elim
theorem ais{d s:Nat}{x:O}{sz b1:Nat}:l6 P gl (.ap d s x sz b1):=JD rfl rfl rfl rfl rfl (λ_ _=>rfl) (λ_ _=>rfl)
theorem ait{d s:Nat}{x:O}{sz b1:Nat}:l6 P gl (.nj d s x sz b1):=JD rfl rfl rfl rfl rfl (λ_ _=>rfl) (λ_ _=>rfl)
theorem aiu{d s:Nat}{x:O}{sz b1:Nat}:l6 P gl (.nk d s x sz b1):=JD rfl rfl rfl rfl rfl (λ_ _=>rfl) (λ_ _=>rfl)
theorem Qa{i:I}(sh:rM i=false)(bp:hZ i=false):l6 P gl i:=by
 cases i;case e2=>exact aic
 case aO=>grind[rM]
 case nn=>grind[rM]
 case pg=>grind[rM]
 case ls=>exact aid
 case aI=>exact aia
 case aE=>exact aib
 case hs=>exact aie
 case aJ=>exact aif
 case oz=>exact aii
 case dH=>exact air
 case ap=>exact ais
 case nj=>exact ait
 case nk=>exact aiu
 case rF=>exact aij
 case ak=>exact aik
 case oA=>exact ail
 all_goals first
  |exact ah9 sh rfl rfl (λ_ _=>rfl)
  |grind[hZ]
theorem ay7(h:p:=by grind[I.hw,I.dst]):p:=h
theorem Qb{i:I}{t:Nat}(h:t∈i.hw):i.dst=some t\/t∈i.rd:=by
 rcases aAT.1 h with h|h
 all_goals grind[I.rd]
theorem E7{i:I}{t:Nat}(h:t∈i.kl):t∈i.rd:=by
 cases i<;>simp[I.kl,aAO]at h
 .exact h
 .exact aAN _ h
 .exact aAN _ h
 .exact h
theorem aiv{i:I}{t:Nat}(h:t∈i.gO):t∈i.oC:=by
 cases i<;>simp[I.gO,I.oC]at h⊢ <;>exact h
theorem aiw{i:I}(h:i.ws=true):i.rs=true:=by
 cases i<;>simp[I.ws,I.rs]at h⊢
theorem Qc{i:I}{d:Nat}(h:i.dst=some d):d∈i.hw:=by
 simp_all[I.hw]
theorem vq{g:cf}{t:Nat}(h:t∈g.i.rd):t∈g.rd:=by grind[cf.rd]
structure pM(P:Program)(gl:Nat->List D)(id:Nat)(g:cf)(st aT:ag)(E:il):Prop where
 aR:∀t,t∉g.i.hw->t∉E.k->aT.aR t=st.aR t
 bH:∀t,t∉g.i.gO->aT.bH t=st.bH t
 s:aT.s=apps E.ws st.s
 ai:iZ E st.s
 k:∀t,t∈E.k->t∈g.i.kl
 at_:∀u,u∈E.ws->u.at E
 r0:g.i.rs=false->E.rd=[]/\E.ro=[]/\E.len=none
 w0:g.i.ws=false->E.ws=[]/\E.len=none
 oR:∀(aP:ag) (bK:ag->Prop),(∀t,t∈g.rd->aP.aR t=st.aR t)->(∀t,t∈g.i.oC->aP.bH t=st.bH t)->iZ E aP.s->bK (iJ g.i E aP aT)->kp (bx P gl) gl id g aP bK
theorem JE(st:ag)(d:Option Nat)(v:ah)(t:Nat):(st.dI d v).aR t=if d=some t then v else st.aR t:=by
 obtain⟨a,b,c⟩:=st;rw[E5]
theorem Qd(st:ag)(d:Option Nat)(v:ah):(st.dI d v).bH=st.bH:=by cases d<;>rfl
theorem Qe(st:ag)(d:Option Nat)(v:ah):(st.dI d v).s=st.s:=by cases d<;>rfl
theorem aix{id:Nat}{g:cf}{st aT:ag}{E:il}(h:pM P gl id g st aT E):iJ g.i E st aT=aT:=by
 refine tS (λt=> ?_) (λt=> ?_) h.s.symm
 .split
  .rfl
  .rename_i ay;simp at ay;exact(h.aR t ay.1 ay.2).symm
 grind[pM.bH]
theorem pM.mono{id:Nat}{g:cf}{st aT:ag}{E:il}(h:pM P gl id g st aT E){K:ag->Prop}(aq:K aT):kp (bx P gl) gl id g st K:=
 h.oR st K (λ_ _=>rfl) (λ_ _=>rfl) h.ai (by grind[aix])
theorem Qf{id:Nat}{g:cf}{st:ag}(bp:hZ g.i=false)(E6:∀(aP:ag) (bK:ag->Prop),(∀t,t∈g.rd->aP.aR t=st.aR t)->bK (aP.dI g.i.dst (.tuple []))->step1 (bx P gl) gl g aP bK):
  pM P gl id g st (st.dI g.i.dst (.tuple [])) {}:=by
 refine⟨λt aE _=> ?_,λt _=>by rw[Qd],by rw[Qe];rfl,⟨axX,axX,axX⟩,axX,axX,λ_=>⟨rfl,rfl,rfl⟩,λ_=>⟨rfl,rfl⟩,λaP bK aj aF _ aq=> ?_⟩
 .rw[JE,aAG];grind[Qc]
 .unfold kp;rw[bp];refine E6 aP bK aj ?_;have:iJ g.i {} aP (st.dI g.i.dst (.tuple []))=aP.dI g.i.dst (.tuple []):=by
   refine tS (λt=> ?_) (λt=> ?_) (by rw[Qe];rfl)
   .rw[JE,JE];by_cases h:g.i.dst=some t
    .grind[Qc]
    .grind[Qb,vq]
   simp_all[Qd,aiv]
  simp_all
theorem pL.Qg{id:Nat}{g:cf}{st aT:ag}{E:il}(bp:hZ g.i=false)(h:pL P gl g.i st aT E)
  (E6:∀(aP:ag) (bK:ag->Prop),(∀t,t∈g.rd->aP.aR t=st.aR t)->step (bx P gl) gl g.i aP bK->step1 (bx P gl) gl g aP bK):pM P gl id g st aT E:=by
 refine⟨h.aR,h.bH,h.s,h.ai,h.k,h.at_,h.r0,h.w0,λaP bK aj aF aZ aq=> ?_⟩;grind[kp,vq,oR]
theorem Qh{i:I}{st:ag}{o:b9}{d:Nat}{v:Nat->ah}(h:jZ gl i st=some (o,d,v)):i.hw=[d]/\i.gO=[]/\i.rs=true/\i.ws=true/\i.dst=some d/\
  ∀aP:ag,(∀t,t∈i.rd->aP.aR t=st.aR t)->jZ gl i aP=some (o,d,v):=by
 cases i<;>simp only[jZ,reduceCtorEq]at h;case bp vr z=>
  obtain⟨h1,sh,av⟩:=h;refine⟨ay7,rfl,rfl,rfl,by grind[I.dst],λaP _=>by grind[jZ]⟩
 case mm vr=>
  obtain⟨h1,sh,av⟩:=h;refine⟨ay7,rfl,rfl,rfl,by grind[I.dst],λaP _=>by grind[jZ]⟩
 case au vr x n=>
  have aY:vr=d:=axZ;refine⟨ay7,rfl,rfl,rfl,by grind[I.dst],λaP e=> ?_⟩;simp[jZ,kb (gl:=gl) e (x:=x) (λt aE=>aE)];exact h
 case mk vr sz z n b1=>
  have aY:vr=d:=axZ;refine⟨ay7,rfl,rfl,rfl,by grind[I.dst],λaP e=> ?_⟩;simp[jZ,kb (gl:=gl) e (x:=n) (λt aE=>aE)];exact h
theorem aiy{id:Nat}{g:cf}(sh:rM g.i=false){st:ag}{K:ag->Prop}(h:kp (bx P gl) gl id g st K):
  ∃aT E,K aT/\pM P gl id g st aT E/\ka E (uT gl id g st aT):=by
 cases bp:hZ g.i with
 |true=>
  unfold kp at h;rw[bp]at h;split at h
  .rename_i o d v aj aF;obtain⟨aC,h⟩:=h;have aA:id<st.s.length:=axY;obtain⟨bw,a2,a3,a4,a5,E8⟩:=Qh aF;have j5:g.rd=g.i.rd:=by grind[cf.rd]
   refine⟨_,{ro:=[(id,st.s.getD id .dead)],ws:=[.o id o]},h,⟨λt aE _=> ?_,λt _=>rfl,rfl,⟨axX,?_,axX⟩,axX,?_,λax=>axY,λax=>axY,λaP bK f1 f2 f3 aq=> ?_⟩,?_⟩
   .simp_all[ag.set,dh]
   .simp_all
   .intro u hu;simp at hu;subst hu;exact⟨_,aAF.2 rfl,rfl⟩
   .have fF:=(aBk.1 (f3.ro _ (aAF.2 rfl))).1;unfold kp;rw[bp];simp[aAg,aj,E8 aP (λt aE=>f1 t (vq aE))];refine⟨axY,?_⟩;have:iJ g.i {ro:=[(id,st.s.getD id .dead)],ws:=[.o id o]} aP ({st with s:=st.s.set id o}.set d (v id))={aP with s:=aP.s.set id o}.set d (v id):=by
     refine tS (λt=> ?_) (λt=>by grind[ag.set]) rfl;simp_all[ag.set,dh]
    simp_all
   .unfold uT;rw[bp];refine⟨axX,?_,axX,rfl,axX,?_,axX,axX,axX⟩;all_goals simp
  .exact h.elim
 |false=>
  have JC:∀aT,uT gl id g st aT=yL gl g st aT:=λaT=>by grind[uT]
  unfold kp at h;rw[bp]at h;simp at h;unfold step1 at h;split at h
  .rename_i aj;obtain⟨aT,E,k1,k2,fX⟩:=Qa (P:=P) (gl:=gl) sh bp st K h;refine⟨aT,E,k1,k2.Qg bp λaP bK _ hs=> ?_,?_⟩;all_goals grind[step1,yL]
  .rename_i s want aj;have BF:∀{aP:ag},(∀t,t∈g.rd->aP.aR t=st.aR t)->aP.aR s=st.aR s:=λe=>e s (by grind[cf.rd]);split at h
   .rename_i b au;cases az:cond want b (!b)with
    |true=>
     rw[az]at h;simp at h;obtain⟨aT,E,k1,k2,fX⟩:=Qa (P:=P) (gl:=gl) sh bp st K h;refine⟨aT,E,k1,k2.Qg bp λaP bK e hs=> ?_,?_⟩;all_goals grind[step1,yL]
    |false=>
     rw[az]at h;simp at h;refine⟨_,{},h,Qf bp λaP bK e hs=> ?_,?_⟩;all_goals grind[step1,yL,zu]
   .rename_i au;refine⟨_,{},h,Qf bp λaP bK e hs=> ?_,?_⟩;all_goals grind[step1,yL,zu]
   .exact h.elim
structure T where
 id:Nat
 g:cf
 E:il
def qW(P:Program)(gl:Nat->List D):List T->ag->(ag->Prop)->Prop
 |[],st,K=>K st
 |t::l,st,K=>∃aT,pM P gl t.id t.g st aT t.E/\qW P gl l aT K
structure vt(x y:T):Prop where
 h:yJ x.g y.g=true
 k1:∀t,t∈x.E.k->t∉y.g.rd/\t∉y.g.i.hw
 k2:∀t,t∈y.E.k->t∉x.g.rd/\t∉x.g.i.hw
 e:EY x.E y.E
theorem sl{a b:List Nat}(h:qo a b=true):∀t,t∈a->t∉b:=by
 intro t aE au;have:=aAx.1 h t aE;rw[pG.2 au]at this;simp_all
theorem aiz{x y:T}{l:List T}{st:ag}{K:ag->Prop}(hi:vt x y)(h:qW P gl (x::y::l) st K):qW P gl (y::x::l) st K:=by
 obtain⟨s1,cY,s2,cO,aI⟩:=h;have eW:=hi.h;unfold yJ at eW;simp at eW;obtain⟨⟨⟨d1,d2⟩,d3⟩,d4⟩:=eW;have d1:=sl d1;have d2:=sl d2;have d3:=sl d3;have d4:=sl d4;have avw:=λt aE=>cY.aR t (λhw=>d1 t hw (aAB _ aE)) (λaq=>(hi.k1 t aq).1 aE);have avx:=λt aE=>cY.bH t λhw=>d3 t hw (aAB _ aE);have Qi:=by
  refine ah4 hi.e.PX hi.e.PY cY.at_ cY.ai ?_;rw[<-cY.s];exact cO.ai
 have avy:∀t,t∈x.g.i.hw\/t∈x.E.k->s2.aR t=s1.aR t:=by
  intro t aE;refine cO.aR t (λhw=> ?_) (λaq=> ?_)
  .rcases aE with aE|aE
   .simp_all
   .exact(hi.k1 t aE).2 hw
  .rcases aE with aE|aE
   .exact(hi.k2 t aq).2 aE
   .exact(hi.k1 t aE).1 (vq (E7 (cO.k t aq)))
 have avz:=λt aE=>cO.bH t λhw=>d3 t aE (aAN _ hw);have aiA:=by
  refine(PT (λu hu v hv=>hi.e.ww u hu v hv) (λu hu=>PR (cY.at_ u hu) cY.ai) (λv hv=>PR (cO.at_ v hv) Qi)).symm
 refine⟨iJ y.g.i y.E st s2,⟨λt h1 sh=> ?_,λt h1=> ?_,rfl,Qi,cO.k,cO.at_,cO.r0,cO.w0,λaP bK aj aF aZ aq=> ?_⟩,s2,⟨λt h1 sh=> ?_,λt h1=> ?_,?_,PV hi.e.PW cY.ai,cY.k,cY.at_,cY.r0,cY.w0,λaP bK aj aF aZ aq=> ?_⟩,aI⟩
 .simp_all[iJ]
 .simp_all[iJ]
 .refine cO.oR aP bK (λt aE=>axY) (λt aE=>axY) aZ ?_;have:iJ y.g.i y.E aP (iJ y.g.i y.E st s2)=iJ y.g.i y.E aP s2:=by
   refine tS (λt=> ?_) (λt=> ?_) rfl
   .simp[iJ];simp_all
   .simp[iJ];simp_all
  simp_all
 .simp only[iJ];split
  .rfl
  .rename_i ay;simp at ay;rw[cO.aR t ay.1 ay.2,cY.aR t h1 sh]
 .grind[iJ,pM.bH]
 .rw[cO.s,cY.s];exact aiA
 .refine cY.oR aP bK (λt aE=> ?_) (λt aE=> ?_) aZ ?_
  .rw[aj t aE];have ay:¬(t∈y.g.i.hw\/t∈y.E.k):=by
    rintro(hw|aq)
    .simp_all
    .exact(hi.k2 t aq).1 aE
   simp[iJ,ay,aAC]
  .rw[aF t aE];have ay:t∉y.g.i.gO:=λhw=>d4 t hw aE;simp[iJ,ay,aAC]
  grind[iJ]
theorem JF{g:T}:∀{l1 l2:List T} {st:ag} {K:ag->Prop},(∀x,x∈l1->vt x g)->qW P gl (l1++g::l2) st K->qW P gl (g::(l1++l2)) st K
 |[],l2,st,K,_,h=>h
 |x::l1,l2,st,K,aI,h=>by
  obtain⟨s1,cY,h⟩:=h;have cG:=JF (l1:=l1) (λy wa=>aI y (by simp[wa])) h;exact aiz (aI x axX) ⟨s1,cY,cG⟩
def nD:List cf->Nat->List Nat
 |[],_=>[]
 |g::l,id=>id::nD l (cond (hZ g.i) (id+1) id)
def Qj(x y:T):Prop:=∃en fk,ka x.E en/\ka y.E fk/\A5 x.g en y.g fk=true
theorem Qk:∀{l:List cf} {dy:List (List Nat)} {acc:List (cf×jc)} {id:Nat} {st:ag} {K:ag->Prop} {ts:List T},(∀g,g∈l->rM g.i=false)->
  (∀(i:Nat) x en,acc[i]?=some (x,en)->∃t,ts[i]?=some t/\t.g=x/\ka t.E en)->acc.length=ts.length->qu (bx P gl) gl l dy acc id st K->
  ∃xv:List T,qW P gl xv st K/\xv.map (·.g)=l/\xv.map (·.id)=nD l id/\∀(j:Nat) zx,xv[j]?=some zx->∀i,i∈dy.getD j []->∃sn,(ts++xv)[i]?=some sn/\Qj sn zx
 |[],dy,acc,id,st,K,ts,_,_,_,h=>⟨[],h,rfl,rfl,axX⟩
 |g::l,dy,acc,id,st,K,ts,sh,bp,hlen,h=>by
  obtain⟨aT,E,⟨az,aq⟩,bd,B3⟩:=aiy (sh g axX) h;obtain⟨xv,k1,k2,fX,jn⟩:=Qk (ts:=ts++[⟨id,g,E⟩]) (λg aC=>sh g axZ) (by
   intro i x en hi;rcases aA1 i acc.length with aI|aI
   .grind
   .rw[aA7 aI]at hi;have qX:i-acc.length=0:=axZ;rw[qX]at hi;obtain⟨rfl,rfl⟩:=hi;exact⟨⟨id,g,E⟩,axZ,rfl,B3⟩) axY aq
  refine⟨⟨id,g,E⟩::xv,⟨aT,bd,k1⟩,axZ,by grind[nD],?_⟩;intro j zx aK i hi;cases j with
  |zero=>
   simp at aK;subst aK;have jj:i∈dy.headD []:=by cases dy<;>first|grind|simp at hi
   have:=aAx.1 az i jj;split at this
   .rename_i x en ak;obtain⟨t,t1,t2,t3⟩:=bp i x en ak;have aA:=(aBk.1 t1).1;refine⟨t,axZ,en,_,t3,B3,?_⟩;simp_all
   simp_all
  |succ j=>
   have jj:i∈dy.tail.getD j []:=axY;grind
end
section
variable {P:Program}{gl:Nat->List D}{n0 nt:Nat}{a:Act}{w w' w0:World}{G G' G0:bI}{ρ ρ' ρ0:List Nat}{lam lam':Nat->Option Nat}{st aT:ag}{K:ag->Prop}{o:Oper}{Q:Exit->Act->World->Prop}
theorem bS.aiB{d id:Nat}{ob:Obj}{v:Value}{x:ah}{vo:b9}(h:bS gl w G ρ lam a.tmps st)(hid:ρ[id]?=some 0)(hw:gD w ob w')(aY:d<a.tmps.size)
  (bd:kv w' (fP w G (.obj id) 0) (ρ.set id (w.heap.size+1)) id w.heap.size vo) (ak:df w' (fP w G (.obj id) 0) (ρ.set id (w.heap.size+1)) v x):
  bS gl w' (fP w G (.obj id) 0) (ρ.set id (w.heap.size+1)) lam (a.tmps.setIfInBounds d v) ({st with s:=st.s.set id vo}.set d x):=by
 have cN:∀i b:Nat,ρ[i]?=some (b+1)->(ρ.set id (w.heap.size+1))[i]?=some (b+1):=axZ;have hlen:id<st.s.length:=by rw[<-h.ob.1];grind
 have wb:=hw.rel (L0:=.obj id) (n0:=0) h.lt h;refine bS.set (st:={st with s:=st.s.set id vo}) ⟨λt=> ?_,?_,wb.nb,⟨ayR,?_⟩,wb.eU,wb.lt⟩ aY (.cp ak)
 .exact(wb.aR t).bR (da.refl _ _) cN (λ_ _ h=>h) (λb n h=>⟨rfl,h⟩)
 .intro t dZ aE;obtain⟨b,h1,sh⟩:=wb.bH t dZ aE;exact⟨b,h1,dM.bR (da.refl _ _) cN (λb n h=>⟨rfl,h⟩) (λj b n h=>⟨rfl,h⟩) sh⟩
 .intro i b o au pC;by_cases qE:id=i
  .grind
  .rw[aAQ qE]at au;rw[aAQ qE]at pC;exact(wb.ob.2 i b o au pC).bR (da.refl _ _) cN (λb n h=>⟨rfl,h⟩) (λj b n h=>⟨rfl,h⟩)
def zy(P:Program)(o:Oper)(a:Act)(w:World)(G:bI)(ρ:List Nat)(ob:b9)(v:Nat->ah):Prop:=
 ∃(v0:Value) (obj:Obj) (w1:World),(execOp a.eval o).run P w=.ok (.value v0) w1/\gD w obj w1/\
  ∀(id:Nat) (ρ':List Nat),(∀i b:Nat,ρ[i]?=some (b+1)->ρ'[i]?=some (b+1))->ρ'[id]?=some (w.heap.size+1)->
   kv w1 (fP w G (.obj id) 0) ρ' id w.heap.size ob/\df w1 (fP w G (.obj id) 0) ρ' v0 (v id)
theorem aiC{e:Nat}{z:List ah}(bz:o.op=.alloc e)(aO:zeros P e=some z):zy P o a w G ρ (.box z) (λi=>.ptr i 0):=by
 obtain⟨i,v,h1,sh,av,aW,bL⟩:=n1 aO;have ax:(execOp a.eval o).run P w=.ok (.value (.pointer (some ⟨w.heap.size,0,none⟩))) {w with heap:=w.heap.push (.cells v.cells e)}:=azm;have hw:gD w (.cells ⟨v.cells.toList⟩ e) {w with heap:=w.heap.push (.cells v.cells e)}:=⟨rfl,rfl,rfl⟩;exact⟨_,_,_,ax,hw,λid ρ' cN hi=>⟨wY (LC:=.du id) hw bL,.ptr _ _ _ hi⟩⟩
theorem aiD{e n t1:Nat}{x:Operand}{bA:O}(p:bT n0 gl nt w G ρ lam a st)(bz:o.op=.box e x)(ak:bO P t1 x=some bA)
  (aC:(Nat.beq (cellsOf (gP (aL gl st bA))).length n&&(cellsOf (gP (aL gl st bA))).all (ea depth))=true):zy P o a w G ρ (.box (cellsOf (gP (aL gl st bA)))) (λi=>.ptr i 0):=by
 simp only[aAc]at aC;obtain⟨Bl,kX⟩:=dQ ak p.rel;have hA:=Eg kX aC.2;have ax:(execOp a.eval o).run P w=.ok (.value (.pointer (some ⟨w.heap.size,0,none⟩))) {w with heap:=w.heap.push (.cells (a.eval x).cells e)}:=azn;have hw:gD w (.cells ⟨(a.eval x).cells.toList⟩ e) {w with heap:=w.heap.push (.cells (a.eval x).cells e)}:=⟨rfl,rfl,rfl⟩;refine⟨_,_,_,ax,hw,λid ρ' cN hi=>⟨wY (LC:=.du id) hw ?_,.ptr _ _ _ hi⟩⟩;exact(hA.keep (da.refl _ _) cN).cells aC.2
theorem aiE{t:Nat}(bz:o.op=.makeMap t none):zy P o a w G ρ (.map []) (λi=>.map i):=by
 have ax:(execOp a.eval o).run P w=.ok (.value (.map (some w.heap.size))) {w with heap:=w.heap.push (.map #[] 0)}:=by
  simp_all[execOp,Instr.makeMap]
 have hw:gD w (.map #[] 0) {w with heap:=w.heap.push (.map #[] 0)}:=⟨rfl,rfl,rfl⟩;exact⟨_,_,_,ax,hw,λid ρ' cN hi=>⟨⟨#[],0,hw.new,ayl,rfl,axX⟩,.map _ _ hi⟩⟩
theorem aiF{t e sz bt:Nat}{z:List ah}{l c:Operand}{bC:O}{k:IntKind}{n:Int}(p:bT n0 gl nt w G ρ lam a st)(bz:o.op=.makeSlice t l c)(qC:a.eval c=a.eval l)(aI:bO P 0 l=some bC)
  (hu:P.underlying t=some (.slice e)) (ay:dc P e=some sz) (gu:0<sz) (aO:zeros P e=some z) (kB:bytesOf P e=some bt) (iG:0<bt) (aj:aL gl st bC=.d (.int k n))
  (aC:(decide (0<=n)&&decide (n<=((1099511627776/bt:Nat):Int)))=true):zy P o a w G ρ (.box (List.replicate n.toNat z).flatten) (λi=>.aN i 0 n.toNat n.toNat sz):=by
 obtain⟨fB,h1⟩:=dQ aI p.rel;rw[aj]at h1;have hv:=h1.int;simp at aC;obtain⟨vs,v1,v2,v3⟩:=Pn (P:=P) (w:=w) (k:=k) hu ay gu aO kB iG aC.1 aC.2;have fC:(execOp a.eval o).run P w=.ok (.value (.slice (some ⟨w.heap.size,0,none⟩) n.toNat n.toNat)) {w with heap:=w.heap.push (.cells ⟨vs⟩ e)}:=ayC;have hw:gD w (.cells ⟨vs⟩ e) {w with heap:=w.heap.push (.cells ⟨vs⟩ e)}:=⟨rfl,rfl,rfl⟩;refine⟨_,_,_,fC,hw,λid ρ' cN hi=>⟨wY (LC:=.du id) hw v2,?_⟩⟩;refine .aN _ _ _ _ _ _ _ hi (aAd _) ⟨_,e,(0,0),hw.new,?_⟩;simp_all
def aiG(n0:Nat)(gl:Nat->List D)(nt:Nat)(id:Nat)(w:World)(G:bI)(ρ:List Nat)(K:ag->Prop)(a':Act)(w':World):Prop:=
 nt<=a'.tmps.size/\∃G' ρ' lam' aT,Marks n0 w' G' a'.defers/\bS gl w' G' ρ' lam' a'.tmps aT/\Good w G w' G'/\(∀i b:Nat,i≠id->ρ[i]?=some b->ρ'[i]?=some b)/\K aT
theorem aiH{d id:Nat}{ob:b9}{v:Nat->ah}(p:bT n0 gl nt w G ρ lam a st)(a8:o.dst=some d)(bu:d<nt)(hid:ρ[id]?=some 0)(h:zy P o a w G ρ ob v)
  (ao:K ({st with s:=st.s.set id ob}.set d (v id))):o.wp P a w (aiG n0 gl nt id w G ρ K) Q:=by
 obtain⟨v0,obj,w1,ax,hw,h⟩:=h;have aA:=(aBk.1 hid).1;have cN:∀i b:Nat,ρ[i]?=some (b+1)->(ρ.set id (w.heap.size+1))[i]?=some (b+1):=axZ;obtain⟨h1,sh⟩:=h id (ρ.set id (w.heap.size+1)) cN axY;have dD:=hw.good p.rel.lt (L0:=.obj id) (n0:=0) axX;refine gb ax ⟨ax5,_,ρ.set id (w.heap.size+1),lam,_,by rw[put_defers];exact p.eO.good dD,?_,dD,λi b cB hi=> ?_,ao⟩
 .rw[a8];exact p.rel.aiB hid hw (aAI bu p.sz) h1 sh
 grind
theorem aiI{an:eo}{m:fl}{i:I}{ob:b9}{d:Nat}{v:Nat->ah}(p:bT n0 gl nt w G ρ lam a st)(h:jh P an m o=some i)(bp:jZ gl i st=some (ob,d,v)):zy P o a w G ρ ob v:=by
 unfold jh at h;split at h;case h_4=>
  rename_i e vr bz a8;simp[aA8,aAq]at h;grind[yO,jZ,aiC]
 case h_5=>
  rename_i e x vr bz a8;simp[aA8,aAq,aAe]at h;obtain⟨n,ay,bA,ak,rfl⟩:=h;split at bp
  .simp[jZ]at bp;cases aC:(Nat.beq (cellsOf (gP (aL gl st bA))).length n&&(cellsOf (gP (aL gl st bA))).all (ea depth))with
   |false=>simp_all
   |true=>
    rw[aC]at bp;grind[aiD]
  grind[jZ]
 case h_15=>
  grind[jZ,aiE]
 case h_21=>
  rename_i t l c vr bz a8;simp only[aA8,aAq]at h;obtain⟨e,he,z,aO,n,ay,b,au,h⟩:=h;split at h
  .rename_i aC;simp at aC;simp[aAq,aAe]at h;obtain⟨bC,aI,rfl⟩:=h;have qC:a.eval c=a.eval l:=by
    have:=aC.1.1;unfold HG at this;grind[Nat.eq_of_beq_eq_true]
   simp only[jZ]at bp;split at bp
   .rename_i k n' aj;cases fD:(decide (0<=n')&&decide (n'<=((1099511627776/b:Nat):Int)))with
    |false=>grind
    |true=>
     rw[fD]at bp;simp at bp;obtain⟨rfl,rfl,rfl⟩:=bp;exact aiF p bz qC aI (tI he) ay aC.1.2 aO au aC.2 aj fD
   simp_all
  simp_all
 all_goals
  exfalso;revert bp
  (repeat' (first
   |(simp[aA8,aAq,aA0,aAe,reduceCtorEq]at h)
   |(obtain⟨_,_,h⟩:=h)
   |(subst h;simp[jZ];done)
   |(exact h.elim)
   |(split at h)))
 all_goals grind[jZ]
def aCo:=@List.mem_filter
def aBi:=@List.mem_range
def aC0:=@Array.all_eq_true_iff_forall_mem
def aCJ:=@List.pairwise_cons
def aCd:=@List.pairwise_append
def aCp:=@Bool.true_eq_false
theorem ayK(h:p:=by simp[cg]):p:=h
theorem azO(h:p:=by have:=(aCJ.1 jo.2.1).1 j h;omega):p:=h
theorem xw{ops:Array Oper}{listed:Array Bool}(ig:∀(j:Nat) (o:Oper),ops[j]?=some o->listed.getD j true=true->∀e∈o.after.toList,Region.binds .any e=true->listed.getD e.on false=true){x:Nat}:
  ∀(n j:Nat) (o:Oper),ops[j]?=some o->(∀e∈o.after.toList,Region.binds .any e=true->listed.getD e.on false=true)->kS ops x n j=true->listed.getD x false=true
 |0,j,o,_,_,h=>by grind[kS]
 |n+1,j,o,bd,bp,h=>by
  simp only[kS,bd,List.any_eq_true,aAc,aBA]at h;obtain⟨e,he,au,h⟩:=h;have h1:=bp e he au;rcases h with h|h
  .grind[Nat.eq_of_beq_eq_true]
  .cases kZ:ops[e.on]? with
   |none=>
    cases n with
    |zero=>grind[kS]
    |succ n=>grind[kS]
   |some cO=>
    refine xw ig n e.on cO kZ (ig e.on cO kZ ?_) h;grind
theorem E9{an:eo}{nt:Nat}{all:Array Oper}:∀(fuel:Nat) {l:List Oper} {m:fl} {is:List cf},l.length<=fuel->hH P an nt all m l=some is->is.length=l.length
 |_,[],m,is,_,h=>by
  grind[hH]
 |0,o::l,m,is,bh,_=>axY
 |fuel+1,o::l,m,is,bh,h=>by
  simp at bh;rcases vf h with⟨g,f',h1,av,rfl⟩|⟨cO,eH,bC,d,ins,e,f',rfl,ak,aY,he,av,rfl⟩
  .simp[E9 fuel axW av]
  .simp at bh;simp[E9 fuel axW av]
theorem JG{an:eo}{nt:Nat}{all:Array Oper}:∀{l:List Oper} {m:fl} {is:List cf},hH P an nt all m l=some is->∀(i:Nat) (o:Oper),(∀j,j<=i->∀g,is[j]?=some g->oF g.i=false)->l[i]?=some o->
  ∃m' g,is[i]?=some g/\qP P an m' o g.i/\pw all o=some g.g/\kr nt o=true/\g.i.dst=o.dst
 |[],m,is,h,i,o,_,bd=>axY
 |o::l,m,is,h,i,o',ay,bd=>by
  rcases vf h with⟨g,f',h1,av,rfl⟩|⟨cO,eH,bC,d,ins,e,f',rfl,ak,aY,he,av,rfl⟩
  .cases i with
   |zero=>
    simp at bd;subst bd;obtain⟨c1,c2,c3,c4⟩:=xl h1;exact⟨m,g,rfl,c1,c2,c3,c4⟩
   |succ i=>
    obtain⟨m',n8,k1,k2⟩:=JG av i o' (λj aK n8 aC=>ay (j+1) axW n8 (by simpa using aC)) (by simpa using bd);exact⟨m',n8,by simpa using k1,k2⟩
  .obtain⟨s,z,iQ,y,sz,b1,rfl,iW⟩:=vb ak;have:=ay 0 (aAa _) _ rfl;grind[oF]
theorem aiJ{g:cf}{st:ag}{K:ag->Prop}:step1 (bx P gl) gl g st K=steps (bx P gl) gl [g] st K:=by
 obtain⟨q,i⟩:=g;cases q with
 |none=>rfl
 |some q=>
  simp_all[step1,steps]
theorem aiK{ops:Array Oper}{i id:Nat}{an:eo}{m:fl}{g:cf}(p:bT n0 gl nt w G ρ lam a st)(bd:ops[i]?=some o)(h:qP P an m o g.i)
  (aC:pw ops o=some g.g) (aY:kr nt o=true) (BS:g.i.dst=o.dst) (hid:hZ g.i=true->ρ[id]?=some 0) (hs:kp (bx P gl) gl id g st K):
  wpOp P ops Q i (λa' w'=>nt<=a'.tmps.size/\∃G' ρ' lam' aT,Marks n0 w' G' a'.defers/\bS gl w' G' ρ' lam' a'.tmps aT/\Good w G w' G'/\(∀i b:Nat,(hZ g.i=true->i≠id)->ρ[i]?=some b->ρ'[i]?=some b)/\K aT) a w:=by
 unfold kp at hs;cases bp:hZ g.i with
 |true=>
  rw[bp]at hs;split at hs
  .rename_i ob d v aj aF;obtain⟨_,hs⟩:=hs;have xh:=Qh aF;have aiL:jh P an m o=some g.i:=by
    rcases h with h|h
    all_goals grind[hZ]
   have a8:o.dst=some d:=axY;have JH:o.guard=none:=by
    grind[pw]
   have bu:d<nt:=ay4;unfold wpOp;rw[bd];have:Region.wanted o (yielded ops a.tmps)=true:=by grind[Region.wanted]
   simp[this,if_true];refine .inl ?_;have:=aiH (n0:=n0) (Q:=Q) p a8 bu (hid bp) (aiI p aiL aF) hs;refine Oper.wp_mono (λa' w' h=> ?_) this;obtain⟨h1,G',ρ',lam',aT,sh,av,aW,bL,cW⟩:=h;grind
  .exact hs.elim
 |false=>
  rw[bp]at hs;simp at hs;rw[aiJ]at hs;refine wpOp_mono (λa' w' h=> ?_) (Ja p bd h aC aY BS hs);obtain⟨h1,G',ρ',lam',aT,sh,av,aW,bL,cW⟩:=h;grind
theorem Ql{ops:Array Oper}{ts rest:List T}{an:eo}{n:Nat}(avA:ts.length=ops.size)(ay:n<=ops.size)
  (rU:∀i,i<n->∀o,ops[i]?=some o->∃m' t,ts[i]?=some t/\qP P an m' o t.g.i/\pw ops o=some t.g.g/\kr nt o=true/\t.g.i.dst=o.dst)
  (mL:uZ ops=true) (JI:∀i,n<=i->i<ops.size->(∀j,j<n->kS ops j ops.size i=true)\/(n<i/\kS ops n ops.size i=true))
  (tW:∀i j,i<j->j<n->kS ops i ops.size j=true\/vt (ts.getD i ⟨0,default,{}⟩) (ts.getD j ⟨0,default,{}⟩))
  (zj:∀i j,i<n->j<n->i≠j->hZ (ts.getD i ⟨0,default,{}⟩).g.i=true->hZ (ts.getD j ⟨0,default,{}⟩).g.i=true->(ts.getD i ⟨0,default,{}⟩).id≠(ts.getD j ⟨0,default,{}⟩).id)
  (B6:∀i,i<n->hZ (ts.getD i ⟨0,default,{}⟩).g.i=true->ρ0.length<=(ts.getD i ⟨0,default,{}⟩).id)
  (fg:∀{listed:Array Bool} {w:World} {G:bI} {ρ:List Nat} {lam:Nat->Option Nat} {a:Act} {st:ag},listed.size=ops.size->(∀i,i<ops.size->(listed.getD i true=true↔i<n))->
   bT n0 gl nt w G ρ lam a st->iY w0 G0 ρ0 w G ρ->qW P gl rest st K->wpAny P .any ops Q (ops.size-n) listed a w):∀(r:Nat) {rem:List Nat} {listed:Array Bool} {w:World} {G:bI} {ρ:List Nat} {lam:Nat->Option Nat} {a:Act} {st:ag},
  rem.length=r->listed.size=ops.size->rem.Pairwise (·< ·)->(∀i,i∈rem↔i<n/\listed.getD i true=false)->(∀i,n<=i->i<ops.size->listed.getD i true=false)->
  (∀(j:Nat) (o:Oper),ops[j]?=some o->listed.getD j true=true->∀e∈o.after.toList,Region.binds .any e=true->listed.getD e.on false=true)->
  (∀i,i∈rem->hZ (ts.getD i ⟨0,default,{}⟩).g.i=true->ρ[(ts.getD i ⟨0,default,{}⟩).id]?=some 0)->
  bT n0 gl nt w G ρ lam a st->iY w0 G0 ρ0 w G ρ->qW P gl (rem.map (λi=>ts.getD i ⟨0,default,{}⟩)++rest) st K->
  wpAny P .any ops Q (r+(ops.size-n)) listed a w:=by
 intro r;induction r with
 |zero=>
  intro rem listed w G ρ lam a st aI cg jo ie kx ig hzero p f hs;have:=List.eq_nil_of_length_eq_zero aI;subst this;rw[aA2];refine fg cg (λi hi=> ?_) p f hs;constructor
  .grind
  grind
 |succ r ih=>
  intro rem listed w G ρ lam a st aI cg jo ie kx ig hzero p f hs;rw[Nat.succ_add];have Qm:∀i,i∈Region.ready .any ops listed↔(i<ops.size/\listed.getD i true=false)/\∀o,ops[i]?=some o->∀e∈o.after.toList,Region.binds .any e=true->listed.getD e.on false=true:=by
   intro i;unfold Region.ready;rw[aCo,aBi];constructor
   .rintro⟨h1,sh⟩;simp only[aAc,aAE]at sh;refine⟨⟨h1,sh.1⟩,λo bd e he au=> ?_⟩;have av:=sh.2;rw[bd]at av;simp only[aBp,aB0,aC0,aBA,aAE]at av;rcases av e (by simpa using he)with h|h
    .grind
    omega
   .rintro⟨⟨h1,sh⟩,av⟩;refine⟨h1,?_⟩;simp only[aAc,aAE];refine⟨sh,?_⟩;rw[aA3 h1];simp only[aBp,aB0,aC0,aBA,aAE];intro e he;cases au:Region.binds .any e with
    |false=>simp
    |true=>exact .inr (av _ (aA3 h1) e (by simpa using he) au)
  refine⟨λtw=> ?_,λi hi=> ?_⟩
  ·
   exfalso;cases rem with
   |nil=>grind
   |cons i rem=>
    have hi:=by
     have hm:=(ie i).1 axX;refine(Qm i).2 ⟨⟨axW,hm.2⟩,λo bd e he au=> ?_⟩;have aA:i<ops.size:=axW;unfold uZ at mL;have h1:=aAx.1 mL i (aBi.2 aA);rw[bd]at h1;simp only[aAx,aBA,aAE]at h1;have sh:e.on<i:=by
      rcases h1 e he with h|h
      .grind
      .simpa [aCE]using h
     have av:e.on∉i::rem:=by
      intro h;rcases aAs.1 h with h|h
      .omega
      .have:=(aCJ.1 jo).1 e.on h;omega
     have aW:listed.getD e.on true=true:=by
      cases aI:listed.getD e.on true with
      |true=>rfl
      |false=>exact absurd ((ie e.on).2 ⟨axW,aI⟩) av
     grind
    rw[tw]at hi;simp at hi
  .obtain⟨⟨aA,dV⟩,iH⟩:=(Qm i).1 hi;have bd:ops[i]?=some ops[i]:=aA3 aA;have dw:i<n:=by
    rcases aA1 i n with h|h
    .exact h
    .exfalso;cases rem with
     |nil=>simp at aI
     |cons j rem=>
      have aK:=(ie j).1 axX;rcases JI i h aA with hw|⟨vu,hw⟩
      .have:=xw ig ops.size i _ bd (iH _ bd) (hw j aK.1);have sh:=aK.2;rw[aBd,aA3 (show j<listed.size by omega)]at this sh;simp only[aB0]at this sh;rw[this]at sh;simp at sh
      .have:=xw ig ops.size i _ bd (iH _ bd) hw;have sh:=kx n (aAd _) axW;rw[aBd,aA3 (show n<listed.size by omega)]at this sh;simp only[aB0]at this sh;rw[this]at sh;simp at sh
   have nz:i∈rem:=(ie i).2 ⟨dw,dV⟩;obtain⟨l1,l2,rfl⟩:=List.append_of_mem nz;obtain⟨m',t,aC,c1,c2,c3,c4⟩:=rU i dw _ bd;have ly:ts.getD i ⟨0,default,{}⟩=t:=by rw[aAL,aC];rfl
   rw[aAy,aAP,aBj,aBJ,ly]at hs;have JJ:=JF (l1:=l1.map λi=>ts.getD i ⟨0,default,{}⟩) (λx ak=>by
    simp only[aAR]at ak;obtain⟨j,aK,rfl⟩:=ak;have xg:j∈l1++i::l2:=aAB _ aK;have ep:=(ie j).1 xg;have n9:j<i:=by
     rw[aCd]at jo;exact jo.2.2 j aK i axX
    rcases tW j i n9 dw with hp|hp
    .exfalso;have:=xw ig ops.size i _ bd (iH _ bd) hp;have sh:=ep.2;rw[aBd,aA3 (show j<listed.size by omega)]at this sh;simp only[aB0]at this sh;rw[this]at sh;simp at sh
    .rwa [ly]at hp) hs
   obtain⟨cI,fa,ky⟩:=JJ;refine wpOp_mono ?_ (aiK (Q:=Q) p bd c1 c2 c3 c4 (λbp=>by have:=hzero i nz;rw[ly]at this;exact this bp) (fa.mono (K:=λs=>s=cI) rfl));rintro a' w' ⟨bF,G',ρ',lam',aT,q1,cE,ei,gF,rfl⟩;have iX:∀j d,(listed.setIfInBounds i true).getD j d=if j=i then true else listed.getD j d:=by
    intro j d;rw[aBd,aBd,aCz];by_cases h:i=j
    .subst h;simp[show i<listed.size by omega]
    .have cG:j≠i:=λe=>h e.symm;simp[h,cG]
   rw[<-aBj,<-aAy]at ky;have zz:∀j,j∈l1++l2->j∈l1++i::l2/\j≠i:=by
    intro j aK;rw[aCd]at jo;rcases aAT.1 aK with h|h
    .exact⟨aAB _ h,by have:=jo.2.2 j h i axX;omega⟩
    .exact⟨aAN _ (by simp[h]),azO⟩
   refine ih (rem:=l1++l2) ?_ ayK ?_ ?_ ?_ ?_ ?_ ⟨cE,q1,bF⟩ ⟨f.good.trans ei,λj b au=> ?_⟩ ky
   .simp only[aAA,aAu]at aI⊢;omega
   .rw[aCd]at jo⊢;exact⟨jo.1,(aCJ.1 jo.2.1).2,λx ak y wa=>jo.2.2 x ak y (by simp[wa])⟩
   .intro j;rw[iX];by_cases aK:j=i
    .subst aK;simp only[if_true,aCp,and_false,iff_false];intro xg;exact(zz j xg).2 rfl
    .simp only[aK,aAC];rw[<-ie j];simp[aK]
   .intro j h1 sh;rw[iX,aAG axW];exact kx j h1 sh
   .intro j o qY qZ e he au;rw[iX]at qZ⊢;by_cases aK:j=i
    .subst aK;rw[iH o qY e he au];simp
    .simp only[aK,aAC]at qZ;rw[ig j o qY qZ e he au];simp
   .intro j aK bp;obtain⟨h1,sh⟩:=zz j aK;refine gF _ _ (λBO=> ?_) (hzero j h1 bp);have:=zj j i ((ie j).1 h1).1 dw sh bp (by rw[ly];omega);rw[ly]at this;omega
   .have eZ:=f.pre j b au;refine gF j b (λBO=> ?_) eZ;have:=B6 i dw (by rw[ly];omega);rw[ly]at this;have:=(aBk.1 au).1;omega
def aB1:=@List.findIdx?_eq_some_iff_getElem
def aCq:=@List.take_append_drop
theorem azP(h:p:=by rw[aBH];intro h;have:=aAn h;omega):p:=h
theorem bT.room(p:bT n0 gl nt w G ρ lam a st)(n:Nat):bT n0 gl nt w G (ρ++List.replicate n 0) lam a (st.room n):=by
 have hs:∀L,e4 L L w G w G:=λ_ _ _ h=>⟨rfl,h⟩;have cN:∀i b:Nat,ρ[i]?=some (b+1)->(ρ++List.replicate n 0)[i]?=some (b+1):=λi b h=>iE i _ h;refine⟨⟨λt=>(p.rel.aR t).bR (da.refl _ _) cN (λ_ _ h=>h) (hs _),?_,p.rel.nb,⟨by simp[ag.room,p.rel.ob.1],?_⟩,p.rel.eU,p.rel.lt⟩,p.eO,p.sz⟩
 .intro t cs au;obtain⟨b,h1,sh⟩:=p.rel.bH t cs au;exact⟨b,h1,dM.bR (da.refl _ _) cN (hs _) (λ_=>hs _) sh⟩
 .intro i b o au bd;rcases aA1 i ρ.length with aI|aI
  .rw[aAY aI]at au;have tu:i<st.s.length:=by rw[<-p.rel.ob.1];omega
   simp[ag.room]at bd;rw[aAY tu]at bd;exact(p.rel.ob.2 i b o au bd).bR (da.refl _ _) cN (hs _) (λ_=>hs _)
  grind
theorem JK:∀{l:List cf} {id j q:Nat},(nD l id)[j]?=some q->id<=q
 |[],_,_,_,h=>by grind[nD]
 |g::l,id,j,q,h=>by
  cases j with
  |zero=>grind[nD]
  |succ j=>
   simp[nD,aBY]at h;have:=JK h;grind
theorem Qn:∀{l:List cf} {id j q:Nat} {g:cf},(nD l id)[j]?=some q->l[j]?=some g->hZ g.i=true->q<id+po l
 |[],_,_,_,_,h,_,_=>axY
 |n8::l,id,j,q,g,h,aC,bp=>by
  cases j with
  |zero=>
   simp_all[nD,po]
  |succ j=>
   simp[nD,aBY]at h;have:=Qn h axY bp;simp[po];grind
theorem JL:∀{l:List cf} {id i j q q':Nat} {g:cf},i<j->l[i]?=some g->hZ g.i=true->(nD l id)[i]?=some q->(nD l id)[j]?=some q'->q<q'
 |[],_,_,_,_,_,_,_,_,_,h,_=>axY
 |n8::l,id,i,j,q,q',g,eP,aC,bp,h,cG=>by
  cases j with
  |zero=>omega
  |succ j=>
   cases i with
   |zero=>
    simp at aC;subst aC;simp[nD,aCi,aAe,aBY,bp,aAg]at h cG;have:=JK cG;omega
   |succ i=>
    simp[nD,aBY]at h cG;exact JL axW axY bp h cG
theorem Qo{ops:Array Oper}{is:List cf}{j:Nat}:∀{k:Nat} {l:List Nat},A' ops is j k=some l->∀i,i<k->∃b,HI ops is i j=some b/\(b=true->i∈l)
 |0,l,_,i,hi=>axW
 |k+1,l,h,i,hi=>by
  simp[A']at h;split at h
  .rename_i bC b h1 sh;simp at h;subst h;by_cases zA:i=k
   .simp_all
   .obtain⟨cj,k1,k2⟩:=Qo h1 i axW;grind
  simp_all
theorem Qp{ops:Array Oper}{is:List cf}:∀{n:Nat} {dy:List (List Nat)},Ba ops is n=some dy->dy.length=n/\∀j,j<n->A' ops is j j=some (dy.getD j [])
 |0,dy,h=>by
  grind[Ba]
 |n+1,dy,h=>by
  simp[Ba]at h;split at h
  .rename_i l c h1 sh;simp at h;subst h;obtain⟨k1,k2⟩:=Qp h1;refine⟨by simp[k1],λj aK=> ?_⟩;by_cases E':j=n
   .subst E';rw[aAL,aA7 axW,k1];simpa using sh
   .rw[aAL,aAY axW,<-aAL];exact k2 j axW
  .simp at h
theorem JM:∀{ts:List T} {st:ag} {K:ag->Prop},qW P gl ts st K->∀t,t∈ts->∃s1 s2,pM P gl t.id t.g s1 s2 t.E
 |[],_,_,_,t,aE=>axY
 |x::ts,st,K,h,t,aE=>by
  obtain⟨aT,h1,sh⟩:=h;rcases aAs.1 aE with rfl|aE
  .exact⟨st,aT,h1⟩
  .exact JM sh t aE
theorem aiM{x y:T}(eW:yJ x.g y.g=true)(h:Qj x y):vt x y:=by
 obtain⟨en,fk,jO,kD,h⟩:=h;unfold A5 at h;simp at h;obtain⟨⟨⟨⟨⟨⟨⟨h1,sh⟩,av⟩,aW⟩,bL⟩,cW⟩,hx⟩,hI⟩:=h;refine⟨eW,λt aE=> ?_,λt aE=> ?_,ah6 jO kD av aW bL cW hx hI⟩
 .rw[jO.k]at aE;have:=sl h1 t aE;simp_all
 .rw[kD.k]at aE;have:=sl sh t aE;simp_all
theorem aiN{x y:T}(ak:∃s1 s2,pM P gl x.id x.g s1 s2 x.E)(wa:∃s1 s2,pM P gl y.id y.g s1 s2 y.E)(eW:yJ x.g y.g=true)(ey:DS x.g y.g=true):vt x y:=by
 obtain⟨_,_,ak⟩:=ak;obtain⟨_,_,wa⟩:=wa;have JN:=eW;unfold yJ at JN;unfold DS at ey;simp at JN ey;obtain⟨⟨⟨d1,d2⟩,d3⟩,d4⟩:=JN;obtain⟨⟨⟨aj,aF⟩,aZ⟩,bP⟩:=ey;have d1:=sl d1;have d2:=sl d2;have aj:=sl aj;have aF:=sl aF;refine⟨eW,λt aE=>⟨λh=>aj t (ak.k t aE) (aAB _ h),λh=>d2 t h (aAB _ (vq (E7 (ak.k t aE))))⟩,λt aE=>⟨aF t (wa.k t aE),λh=>d1 t h (aAB _ (vq (E7 (wa.k t aE))))⟩,?_⟩;have side:∀{X Y:il},X.rd=[]/\X.ro=[]/\X.len=none->X.ws=[]->EY X Y:=by
  intro X Y h1 sh;refine⟨λu _=> ?_,λu hu=>axY,λu hu=>axY,⟨λi ob _ q aS=>axY,λn _=>⟨axY,axY,h1.2.2⟩⟩,⟨λi ob hu=>axY,λn ay=>axY⟩⟩;cases u with
  |c i off v=>exact⟨axY,axY⟩
  |o i ob=>exact⟨axY,axY⟩
  |n ob=>exact h1.2.2
 have aiO:∀{X Y:il},Y.rd=[]/\Y.ro=[]/\Y.len=none->Y.ws=[]->EY X Y:=by
  intro X Y h1 sh;have:=side (Y:=X) h1 sh;exact⟨this.PX,this.PW,λu _ v hv=>axY,this.PY,this.ah2⟩
 cases I3:x.g.i.rs with
 |false=>
  have sj:x.g.i.ws=false:=by
   grind[aiw]
  exact side (ak.r0 I3) (ak.w0 sj).1
 |true=>
  cases aiP:y.g.i.rs with
  |false=>
   have sj:y.g.i.ws=false:=axY;exact aiO (wa.r0 aiP) (wa.w0 sj).1
  |true=>
   have Fa:x.g.i.ws=false:=axY;have Qq:y.g.i.ws=false:=axY;have h1:=ak.w0 Fa;have sh:=wa.w0 Qq;exact⟨axY,axY,axY,⟨axY,λn ay=>axY⟩,⟨axY,λn ay=>axY⟩⟩
theorem tX{ts:List T}{i:Nat}(h:i<ts.length):ts[i]?=some (ts.getD i ⟨0,default,{}⟩):=axY
def Qr(P:Program)(gl:Nat->List D):Prop:=
 ∀{n0 nt:Nat} {an:eo} {m:fl} {ops:Array Oper} {is:List cf} {ts:List T} {k:Nat} {listed:Array Bool} {w w0:World} {G G0:bI} {ρ ρ0:List Nat} {lam:Nat->Option Nat} {a:Act} {st:ag} {K:ag->Prop} {Q:Exit->Act->World->Prop},
  hH P an nt ops m ops.toList=some is->ts.map (·.g)=is->rN is=some k->D2 ops is k=true->uZ ops=true->listed.size=ops.size->(∀i,i<ops.size->(listed.getD i true=true↔i<k))->
  bT n0 gl nt w G ρ lam a st->iY w0 G0 ρ0 w G ρ->qW P gl (ts.drop k) st K->(∀i j,i<j->k+3<=i->j<ops.size->kS ops i ops.size j=true\/vt (ts.getD i ⟨0,default,{}⟩) (ts.getD j ⟨0,default,{}⟩))->(∀a' w',cJ n0 gl nt w0 G0 ρ0 K a' w'->Q .normal a' w')->wpAny P .any ops Q (ops.size-k) listed a w
theorem aiQ{α:Type}{b:Bool}{x:Option α}{y:α}(h:(if b=true then x else none)=some y):b=true/\x=some y:=axY
theorem aiR(P:Program)(gl:Nat->List D)(aiS:Qr P gl):xm P gl:=by
 intro n0 nt an m id ops is dy w G ρ lam a st K az fW p hs;obtain⟨y4,fW⟩:=aiQ fW
 .simp at y4;obtain⟨⟨⟨h1,sh⟩,av⟩,aW⟩:=y4;obtain⟨dH,cs⟩:=Qp fW;refine wp_region_any h1 ?_;obtain⟨p',aC⟩:=p.drawn (w.drawn+1);have Qs:=p'.room (po is);obtain⟨ts,k1,k2,fX,jn⟩:=Qk (acc:=[]) (ts:=[]) av axX rfl hs;have dV:=E9 ops.toList.length (aAd _) az;have pD:ts.length=ops.size:=axZ;have oT:∀i,i<ops.size->is[i]?=some (ts.getD i ⟨0,default,{}⟩).g:=axZ;have zB:∀i,i<ops.size->(nD is st.s.length)[i]?=some (ts.getD i ⟨0,default,{}⟩).id:=axZ;have tW:∀i j,i<j->j<ops.size->yP (rN is) i j=false->kS ops i ops.size j=true\/vt (ts.getD i ⟨0,default,{}⟩) (ts.getD j ⟨0,default,{}⟩):=by
   intro i j eP aK xx;obtain⟨b,q1,bF⟩:=Qo (cs j aK) i eP;unfold HI at q1;rw[oT i axW,oT j aK]at q1;simp only[xx,Bool.or_false]at q1;split at q1
   .simp_all
   .right;split at q1
    .rename_i eW;simp only[aAe]at q1;cases ey:DS (ts.getD i ⟨0,default,{}⟩).g (ts.getD j ⟨0,default,{}⟩).g with
     |true=>exact aiN (JM k1 _ (aAM (tX axW))) (JM k1 _ (aAM (tX axW))) eW ey
     |false=>
      rw[ey]at q1;obtain⟨sn,bN,b5⟩:=jn j _ (tX axW) i (bF q1.symm);grind[aiM]
    simp_all
  have zj:∀i j,i<ops.size->j<ops.size->i≠j->hZ (ts.getD i ⟨0,default,{}⟩).g.i=true->hZ (ts.getD j ⟨0,default,{}⟩).g.i=true->(ts.getD i ⟨0,default,{}⟩).id≠(ts.getD j ⟨0,default,{}⟩).id:=by
   intro i j hi aK cB aiT aiU;rcases Nat.lt_or_gt_of_ne cB with h|h
   .have:=JL h (oT i hi) aiT (zB i hi) (zB j aK);omega
   .have:=JL h (oT j aK) aiU (zB j aK) (zB i hi);omega
  have B6:∀i,i<ops.size->hZ (ts.getD i ⟨0,default,{}⟩).g.i=true->ρ.length<=(ts.getD i ⟨0,default,{}⟩).id:=by
   intro i hi _;rw[p.rel.ob.1];exact JK (zB i hi)
  have hzero:∀i,i<ops.size->hZ (ts.getD i ⟨0,default,{}⟩).g.i=true->(ρ++List.replicate (po is) 0)[(ts.getD i ⟨0,default,{}⟩).id]?=some 0:=by
   intro i hi bp;have ax:=Qn (zB i hi) (oT i hi) bp;have bh:=B6 i hi bp;rw[aA7 bh,List.getElem?_replicate,aAD (by rw[p.rel.ob.1]at bh⊢;omega)]
  have Qt:iY w G ρ {w with drawn:=w.drawn+1} G (ρ++List.replicate (po is) 0):=⟨aC,λi b h=>iE i b h⟩;have Qu:∀(n:Nat),n<=ops.size->∀i,i∈List.range n↔i<n/\(Array.replicate ops.size false).getD i true=false:=by
   intro n ay i;simp only[aBi];constructor
   .intro h;refine⟨h,?_⟩;rw[aBd];grind
   omega
  have gT:∀(n:Nat),∀i,n<=i->i<ops.size->(Array.replicate ops.size false).getD i true=false:=axZ;have ig:∀(j:Nat) (o:Oper),ops[j]?=some o->(Array.replicate ops.size false).getD j true=true->∀e∈o.after.toList,Region.binds .any e=true->(Array.replicate ops.size false).getD e.on false=true:=axZ;have Qv:∀(n:Nat),n<=ops.size->((List.range n).map λi=>ts.getD i ⟨0,default,{}⟩)=ts.take n:=by
   intro n ay;apply aBV;intro i;rw[aA4,aBQ];by_cases hi:i<n
   .rw[List.getElem?_range hi,aAD hi,tX axW];rfl
   grind
  cases aE:rN is with
  |none=>
   have xx:∀i j,yP (rN is) i j=false:=λi j=>by rw[aE];rfl
   have hg:∀j:Nat,∀g,is[j]?=some g->oF g.i=false:=by
    grind[rN]
   have:=Ql (P:=P) (gl:=gl) (n0:=n0) (nt:=nt) (w0:=w) (G0:=G) (ρ0:=ρ) (K:=K .normal) (Q:=j9 n0 gl nt w G ρ K) (ops:=ops) (ts:=ts) (rest:=[]) (an:=an) (n:=ops.size) pD (aAd _)
    (λi hi o bd=>by
     obtain⟨m',g,q1,bF⟩:=JG az i o (λj _ g aC=>hg j g aC) axZ;grind[tX])
    sh (λi h cG=>axW) (λi j eP aK=>tW i j eP aK (xx i j)) zj B6
    (λ{listed w' G' ρ' lam' a' aT} cg pN JO JP JQ=>by
     rw[Nat.sub_self];refine⟨?_,JP.after (JO.after JQ)⟩;unfold Region.ready;rw[List.filter_eq_nil_iff];intro i hi;have:=(pN i (aBi.1 hi)).2 (aBi.1 hi);simp[this])
    ops.size (rem:=List.range ops.size) (listed:=Array.replicate ops.size false) axX axX List.pairwise_lt_range (Qu _ (aAd _)) (gT _) ig
    (λi hi bp=>hzero i (aBi.1 hi) bp) Qs Qt (by rw[Qv _ (aAd _),aBa axW,aBN];exact k1)
   grind
  |some k=>
   rw[aE]at aW;simp at aW;have qI:=by
    unfold rN at aE;have:=(aB1.1 aE).1;rw[dV]at this;simpa using this
   have hg:∀j:Nat,j<k->∀g,is[j]?=some g->oF g.i=false:=by
    intro j aK g aC;unfold rN at aE;obtain⟨q1,bF,cE⟩:=aB1.1 aE;have:=cE j aK;rw[aAj axW]at aC;simp at aC;rw[aC]at this;simpa using this
   have xx:∀i j,j<k->yP (rN is) i j=false:=by
    intro i j aK;rw[aE];unfold yP;have:Nat.blt (k+2) j=false:=by
     rw[aBH];intro h;rw[aCE]at h;omega
    simp[this]
   have JI:∀i,k<=i->i<ops.size->(∀j,j<k->kS ops j ops.size i=true)\/(k<i/\kS ops k ops.size i=true):=by
    unfold D2 at aW;split at aW
    .split at aW
     .simp only[aAc,aAx,aBi,aBA]at aW;intro i hi k4;by_cases zA:i=k
      .subst zA;exact .inl λj aK=>aW.1.1.1 j aK
      .refine .inr ⟨axW,?_⟩;rcases aW.1.1.2 i k4 with h|h
       .have:=aAr h;omega
       .exact h
     .simp at aW
    .simp at aW
   have:=Ql (P:=P) (gl:=gl) (n0:=n0) (nt:=nt) (w0:=w) (G0:=G) (ρ0:=ρ) (K:=K .normal) (Q:=j9 n0 gl nt w G ρ K) (ops:=ops) (ts:=ts) (rest:=ts.drop k) (an:=an) (n:=k) pD axW
    (λi hi o bd=>by
     obtain⟨m',g,q1,bF⟩:=JG az i o (λj aK g aC=>hg j axW g aC) (by simpa using bd);rw[oT i axW]at q1;simp at q1;subst q1;exact⟨m',_,tX axW,bF⟩)
    sh JI (λi j eP aK=>tW i j eP axW (xx i j aK)) (λi j hi aK=>zj i j axW axW) (λi hi=>B6 i axW)
    (λ{listed w' G' ρ' lam' a' aT} cg pN JO JP JQ=>aiS az k2 aE aW sh cg pN JO JP JQ (λi j eP hi aK=>tW i j eP aK (by
     rw[aE];unfold yP;have q1:Nat.beq i (k+1)=false:=azP;have bF:Nat.beq i (k+2)=false:=azP;simp[q1,bF])) λa' w' h=>h)
    k (rem:=List.range k) (listed:=Array.replicate ops.size false) axX axX List.pairwise_lt_range (Qu _ axW) (gT _) ig
    (λi hi bp=>hzero i (by have:=aBi.1 hi;omega) bp) Qs Qt (by rw[Qv _ axW,aCq];exact k1)
   rwa [show k+(ops.size-k)=ops.size by omega]at this
def tY(G:bI)(b:Nat):Prop:=∃L n,G b=some (L,n)/\(∀i,L≠.obj i)/\∀t,L≠.rP t
theorem tY.c8{b:Nat}{s d:Loc}(h:tY G b)(aY:(∀i,d≠.obj i)/\∀t,d≠.rP t):tY (c8 (ff s d) G) b:=by
 obtain⟨L,n,h1,sh,av⟩:=h;refine⟨ff s d L,n,Be h1,?_⟩;grind[ff]
inductive zC(P:Program)(gl:Nat->List D)(w:World)(G:bI)(ρ:List Nat)(lam:Nat->Option Nat)(a:Act)(K:ag->Prop)(o:Oper)(b:Nat):Prop
 |st (a6 off:Nat) (vs:List Value) (c:Array Value) (E:TypeId) (fz:Nat×Nat) (G':bI) (aT:ag):a6≠b->o.dst=none->w.heap[a6]?=some (.cells c E fz)->off+vs.length<=c.size->
   (∀w':World,w'.heap[a6]?=some (.cells c E fz)->(execOp a.eval o).run P w'=.ok .skip (w'.setCells a6 off vs))->bS gl (w.setCells a6 off vs) G' ρ lam a.tmps aT->Good w G (w.setCells a6 off vs) G'->tY G' b->K aT->zC P gl w G ρ lam a K o b
 |j0 (d:Nat) (v:Value) (aT:ag):o.dst=some d->(∀w':World,(execOp a.eval o).run P w'=.ok (.value v) w')->bS gl w G ρ lam (a.tmps.setIfInBounds d v) aT->K aT->zC P gl w G ρ lam a K o b
theorem Fb{b a6 off t n:Nat}{cs:List ah}{L:Loc}{LC:Nat->Loc}{x y:Operand}(ft:dM w G ρ a6 L LC cs)(bz:o.op=.store t x y)(hv:a.eval x=.pointer (some ⟨a6,off,none⟩))(cg:(a.eval y).cells.size=n)(ay:off+n<=cs.length)(aO:dc P t=some n)(h1:∀u∈(a.eval y).cells.toList,u.oneCell'=true)
  (iI:tY G b) (bE:(∃i,L=.obj i)\/∃t,L=.rP t):
  ∃(c:Array Value) (E:TypeId) (fz:Nat×Nat),a6≠b/\w.heap[a6]?=some (.cells c E fz)/\off+(a.eval y).cells.toList.length<=c.size/\
   ∀w':World,w'.heap[a6]?=some (.cells c E fz)->(execOp a.eval o).run P w'=.ok .skip (w'.setCells a6 off (a.eval y).cells.toList):=by
 obtain⟨c,E,fz,aj,aF,aZ,bP,cK⟩:=ft;refine⟨c,E,fz,?_,aj,axZ,λw' jN=> ?_⟩
 .rintro rfl;obtain⟨L',n',sh,av,aW⟩:=iI;simp_all
 .have:=Pt (P:=P) (w:=w') (t:=t) (v:=a.eval y) (off:=off) jN aF axW axY h1;grind[execOp,Sem.run_bind,Result.andThen_ok,Sem.run_pure]
theorem aiV{t tb off n t1 t2 b:Nat}{x y:Operand}{bA y':O}(p:bT n0 gl nt w G ρ lam a st)(iI:tY G b)(a8:o.dst=none)(bz:o.op=.store t x y)(ak:bO P t1 x=some bA)(wa:bO P t2 y=some y')
  (aO:dc P t=some n) (hs:step (bx P gl) gl (.ls bA tb off y' n) st K):zC P gl w G ρ lam a K o b:=by
 obtain⟨fB,ax⟩:=dQ ak p.rel;simp[step]at hs;split at hs
 .rename_i ek dL cs aj aF;obtain⟨aC,hs⟩:=hs;simp only[aAc]at aC;obtain⟨⟨⟨⟨aE,bd⟩,qB⟩,kA⟩,fW⟩:=aC;obtain rfl:ek=tb:=aAn aE;obtain rfl:dL=off:=aAn bd;have qB:=aAn qB;rw[aj]at ax;obtain⟨cj,au,hv⟩:=ax;obtain⟨avB,eZ,ft⟩:=p.rel.bH ek cs aF;rw[eZ]at au;simp at au;subst au;rcases Ej p wa fW with⟨aq,bE,h1⟩|⟨s,z,rfl,hB,aq,gU,jk,h1,AT⟩
  .have cg:(a.eval y).cells.size=n:=by grind[Array.length_toList,ck.length]
   obtain⟨c,E,fz,q1,bF,cE,ei⟩:=Fb ft bz hv cg (aAr kA) aO h1 iI (.inr ⟨_,rfl⟩);obtain⟨dz,dD⟩:=bS.H6 p.rel aF eZ bE;rw[aq]at hs;exact .st _ _ _ c E fz G _ q1 a8 bF cE ei dz dD iI hs
  .have cg:(a.eval y).cells.size=n:=by grind[Array.length_toList]
   obtain⟨c,E,fz,q1,bF,cE,ei⟩:=Fb ft bz hv cg (aAr kA) aO axY iI (.inr ⟨_,rfl⟩);have mG:=p.rel.Ek (s:=s) (L:=.rO ek dL);have wZ:=by
    have:=oH (w:=w) (G:=G) (ff (.slot s) (.rO ek dL)) (.slot s);rw[tg]at this;exact AT.bR (j2 _) (λ_ _ h=>h) this
   obtain⟨dz,dD⟩:=bS.H5 (off:=dL) mG (show(st.set s .undef).bH ek=some cs from aF) eZ wZ;rw[aq,gU]at hs;rw[jk]at cE ei;exact .st _ _ _ c E fz _ _ q1 a8 bF cE ei dz ((qy p.rel.lt axX axX).trans dD) (iI.c8 ⟨axX,axX⟩) hs
 .exact hs.elim
theorem aiW{t n t1 t2 l7:Nat}{x y:Operand}{bA y':O}(p:bT n0 gl nt w G ρ lam a st)(iI:tY G l7)(a8:o.dst=none)(bz:o.op=.store t x y)(ak:bO P t1 x=some bA)(wa:bO P t2 y=some y')
  (aO:dc P t=some n) (hs:step (bx P gl) gl (.hs bA y' n) st K):zC P gl w G ρ lam a K o l7:=by
 obtain⟨fB,ax⟩:=dQ ak p.rel;simp only[step]at hs;split at hs
 .rename_i i off aj;rw[aj]at ax;have gS:=ax;obtain⟨b,au,cc⟩:∃b,ρ[i]?=some (b+1)/\a.eval x=.pointer (some ⟨b,off,none⟩):=by
   cases cc:a.eval x<;>rw[cc]at gS<;>cases gS;simp_all
  split at hs
  .rename_i cs aF;obtain⟨aC,hs⟩:=hs;simp only[aAc]at aC;obtain⟨⟨qB,kA⟩,fW⟩:=aC;have qB:=aAn qB;have ft:=azq;rcases Ej p wa fW with⟨aq,bE,h1⟩|⟨s,z,rfl,hB,aq,gU,jk,h1,AT⟩
   .have cg:(a.eval y).cells.size=n:=by grind[Array.length_toList,ck.length]
    obtain⟨c,E,fz,q1,bF,cE,ei⟩:=Fb ft bz cc cg (aAr kA) aO h1 iI (.inl ⟨_,rfl⟩);obtain⟨dz,dD⟩:=bS.Bo au p.rel aF bE;rw[aq]at hs;exact .st _ _ _ c E fz G _ q1 a8 bF cE ei dz dD iI hs
   .have cg:(a.eval y).cells.size=n:=by grind[Array.length_toList]
    obtain⟨c,E,fz,q1,bF,cE,ei⟩:=Fb ft bz cc cg (aAr kA) aO axY iI (.inl ⟨_,rfl⟩);have mG:=p.rel.Ek (s:=s) (L:=.du i off);have wZ:=by
     have:=oH (w:=w) (G:=G) (ff (.slot s) (.du i off)) (.slot s);rw[tg]at this;exact AT.bR (j2 _) (λ_ _ h=>h) this
    obtain⟨dz,dD⟩:=bS.H7 (off:=off) mG (show(st.set s .undef).s.getD i .dead=.box cs from aF) au wZ;rw[aq,gU]at hs;rw[jk]at cE ei;exact .st _ _ _ c E fz _ _ q1 a8 bF cE ei dz ((qy p.rel.lt axX axX).trans dD) (iI.c8 ⟨axX,axX⟩) hs
  .exact hs.elim
 .exact hs.elim
theorem aiX{d f l7:Nat}{x:Operand}{bA:O}{t t1 n:Nat}{fs:Array Field}{gR:Field}(p:bT n0 gl nt w G ρ lam a st)(a8:o.dst=some d)(bu:d<nt)(bz:o.op=.fieldAddr t x f)(ak:bO P t1 x=some bA)
  (hu:P.underlying t=some (.struct fs)) (bh:fs[f]?=some gR) (aO:dc P gR.type=some n) (gu:0<n) (hs:step (bx P gl) gl (.gK d bA gR.offset) st K):zC P gl w G ρ lam a K o l7:=by
 obtain⟨fB,h1⟩:=dQ ak p.rel;have lA:=aAI bu p.sz;have fC:∀b off,a.eval x=.pointer (some ⟨b,off,none⟩)->∀w:World,(execOp a.eval o).run P w=.ok (.value (.pointer (some ⟨b,off+gR.offset,none⟩))) w:=by
  intro b off hv w;have ay:¬n=0:=axW;simp_all[execOp,Instr.fieldAt,eV,Instr.sureAddr,fieldPlace,j3,aA']
 simp[step]at hs;split at hs
 .rename_i i off aj;rw[aj]at h1;have cw:=h1;obtain⟨b,au,cc⟩:∃b,ρ[i]?=some (b+1)/\a.eval x=.pointer (some ⟨b,off,none⟩):=by
   cases cc:a.eval x<;>rw[cc]at cw<;>cases cw;simp_all
  exact .j0 d _ _ a8 (fC _ _ cc) (p.rel.set lA (.cp (.ptr _ _ _ au))) hs
 .rename_i s off aj;rw[aj]at h1;obtain⟨b,au,cc⟩:=h1;exact .j0 d _ _ a8 (fC _ _ cc) (p.rel.set lA (show di w G ρ lam _ _ (.dT s (off+gR.offset))from⟨b,au,rfl⟩)) hs
 .rename_i cs off aj;rw[aj]at h1;have cw:=h1.iV;cases cc:a.eval x<;>rw[cc]at cw<;>cases cw;rename_i b base vs az ax;exact .j0 d _ _ a8 (fC _ _ cc) (p.rel.set lA (.cp (.d _ _ azk))) hs
 .exact hs.elim
theorem aiY{b a6 cY cO:Nat}{v u:Value}(h:b≠a6)(w:World):(w.setCell ⟨b,cY,none⟩ v).setCell ⟨a6,cO,none⟩ u=(w.setCell ⟨a6,cO,none⟩ u).setCell ⟨b,cY,none⟩ v:=by
 simp only[World.setCell];congr 1;grind
theorem Qw{b a6 cO:Nat}{u:Value}(h:b≠a6):∀{us:List Value} {cY:Nat} {w:World},(w.setCells b cY us).setCell ⟨a6,cO,none⟩ u=(w.setCell ⟨a6,cO,none⟩ u).setCells b cY us
 |[],_,_=>rfl
 |v::us,cY,w=>by
  simp[World.setCells];rw[Qw h,aiY h]
theorem Qx{b a6:Nat}(h:b≠a6){us:List Value}{cY:Nat}:∀{vs:List Value} {cO:Nat} {w:World},(w.setCells b cY us).setCells a6 cO vs=(w.setCells a6 cO vs).setCells b cY us
 |[],_,_=>rfl
 |v::vs,cO,w=>by
  simp[World.setCells];rw[Qw h,Qx h]
theorem JR{b a6:Nat}(h:a6≠b):∀{us:List Value} {cY:Nat} {w:World},(w.setCells b cY us).heap[a6]?=w.heap[a6]?
 |[],_,_=>rfl
 |v::us,cY,w=>by
  simp[World.setCells];rw[JR h];simp[World.setCell,aCg];simp[aAt h]
theorem aiZ{an:eo}{m:fl}{ins:I}{b:Nat}(p:bT n0 gl nt w G ρ lam a st)(iI:tY G b)(h:qP P an m o ins)(aY:kr nt o=true)
  (JS:(∃t s f,o.op=.fieldAddr t (.tmp s) f)\/(∃t s x,o.op=.store t (.tmp s) x)) (hs:step (bx P gl) gl ins st K):zC P gl w G ρ lam a K o b:=by
 rcases h with h|rfl
 .rcases JS with⟨t,s,f,bz⟩|⟨t,s,x,bz⟩
  .obtain⟨d,a8⟩:∃d,o.dst=some d:=by
    cases a8:o.dst with
    |none=>simp_all[jh]
    |some d=>simp
   simp[jh,bz,a8]at h;have bu:d<nt:=ay4;split at h
   .rename_i fs hu;split at h
    .rename_i gR bh;split at h
     .rename_i aO;simp at h;obtain⟨bA,ak,rfl⟩:=h;cases pA:dc P gR.type with
      |none=>simp_all
      |some n=>
       grind[aiX]
     simp_all
    simp_all
   simp_all
  .have a8:o.dst=none:=by
    cases a8:o.dst with
    |none=>rfl
    |some d=>simp_all[jh]
   simp[jh,bz,a8,aA8,aAq]at h;grind[aiV,aiW]
 .exact hs.elim
theorem least{f:Nat->Bool}:∀(n:Nat),(∃i,i<n/\f i=false)->∃i,i<n/\f i=false/\∀j,j<i->f j=true
 |0,h=>axW
 |n+1,h=>by
  by_cases h1:∃i,i<n/\f i=false
  .obtain⟨i,k1,k2⟩:=least n h1;exact⟨i,axW,k2⟩
  .obtain⟨i,k1,k2⟩:=h;have dw:i=n:=by
    rcases aA1 i n with h|h
    .exact absurd ⟨i,h,k2⟩ h1
    .omega
   subst dw;refine⟨i,k1,k2,λj aK=> ?_⟩;cases bh:f j with
   |true=>rfl
   |false=>exact absurd ⟨j,aK,bh⟩ h1
theorem JT{ops:Array Oper}{listed:Array Bool}(i:Nat):i∈Region.ready .any ops listed↔(i<ops.size/\listed.getD i true=false)/\∀o,ops[i]?=some o->∀e∈o.after.toList,Region.binds .any e=true->listed.getD e.on false=true:=by
 unfold Region.ready;rw[aCo,aBi];constructor
 .rintro⟨h1,sh⟩;simp only[aAc,aAE]at sh;refine⟨⟨h1,sh.1⟩,λo bd e he au=> ?_⟩;have av:=sh.2;rw[bd]at av;simp only[aBp,aB0,aC0,aBA,aAE]at av;grind
 grind
theorem Qy{ops:Array Oper}{listed:Array Bool}(mL:uZ ops=true)(cg:listed.size=ops.size)(h:∃i,i<ops.size/\listed.getD i true=false):Region.ready .any ops listed≠[]:=by
 obtain⟨i,h1,sh,av⟩:=least ops.size h;have hi:=by
  refine(JT i).2 ⟨⟨h1,sh⟩,λo bd e he au=> ?_⟩;unfold uZ at mL;have aW:=aAx.1 mL i (aBi.2 h1);grind[Nat.blt_eq]
 grind
theorem zD{d t:Nat}{v:Value}(h:t≠d):(a.put (some d) v).tmps.getD t undef=a.tmps.getD t undef:=by
 simp_all[Act.put,aAt]
def aCK:=@false_iff
theorem ai0{an:eo}{m:fl}{ins:I}(h:qP P an m o ins)
  (JS:(∃t s f,o.op=.fieldAddr t (.tmp s) f)\/(∃t s x,o.op=.store t (.tmp s) x)):hZ ins=false:=by
 rcases h with h|rfl
 .rcases JS with⟨t,s,f,bz⟩|⟨t,s,x,bz⟩
  .obtain⟨d,a8⟩:∃d,o.dst=some d:=by
    cases a8:o.dst with
    |none=>simp_all[jh]
    |some d=>simp
   simp[jh,bz,a8]at h;split at h
   .split at h
    .split at h
     .obtain⟨bA,ak,rfl⟩:=h;rfl
     simp_all
    simp_all
   simp_all
  .have a8:o.dst=none:=by
    cases a8:o.dst with
    |none=>rfl
    |some d=>simp_all[jh]
   simp[jh,bz,a8,aA8,aAq]at h;obtain⟨n,ay,y,wa,z,aO,h⟩:=h;split at h
   .simp at h;subst h;rfl
   .simp at h;subst h;rfl
 .rfl
theorem Qz{xo:Operand}{q:Nat}{v:Value}(h:∀q',xo=.tmp q'->q≠q'):(a.put (some q) v).eval xo=a.eval xo:=eval_put (λq' aS=>aAt (h q' aS))
theorem ai1{ops:Array Oper}{ts:List T}{an:eo}{k d e i0 b pos:Nat}{cO eH:Oper}{xo:Operand}{v1 v2 vi vx:Value}{us:List Value}{c1:Array Value}{E:TypeId}{fz:Nat×Nat}
  (mL:uZ ops=true) (kZ:ops[k+1]?=some cO) (fD:cO.guard=none) (nC:cO.dst=some e) (qR:ops[k+2]?=some eH) (mH:eH.guard=none) (E1:eH.dst=none) (he:e<nt)
  (EN:∀(a':Act) (w':World),a'.tmps.getD d undef=v1->a'.tmps.getD i0 undef=vi->(execOp a'.eval cO).run P w'=.ok (.value v2) w')
  (EO:∀(a':Act) (w':World),a'.tmps.getD e undef=v2->a'.eval xo=vx->w'.heap[b]?=some (.cells c1 E fz)->(execOp a'.eval eH).run P w'=.ok .skip (w'.setCells b pos us))
  (ai2:d≠e) (ai3:i0≠e) (ai4:∀q,xo=.tmp q->e≠q) (ai5:kS ops (k+1) ops.size (k+2)=true)
  (rU:∀i,k+3<=i->i<ops.size->∀o,ops[i]?=some o->∃m' t,ts[i]?=some t/\qP P an m' o t.g.i/\t.g.g=none/\o.guard=none/\kr nt o=true/\t.g.i.dst=o.dst/\
   ((∃t s f,o.op=.fieldAddr t (.tmp s) f)\/(∃t s x,o.op=.store t (.tmp s) x))/\
   (∀q,o.dst=some q->d≠q/\i0≠q/\e≠q/\∀q',xo=.tmp q'->q≠q')/\e∉t.g.rd)
  (tW:∀i j,i<j->k+3<=i->j<ops.size->kS ops i ops.size j=true\/vt (ts.getD i ⟨0,default,{}⟩) (ts.getD j ⟨0,default,{}⟩))
  (aV:∀a' w',cJ n0 gl nt w0 G0 ρ0 K a' w'->Q .normal a' w'):∀(r:Nat) {rem:List Nat} {ph:Nat} {listed:Array Bool} {w wv:World} {G:bI} {a:Act} {st:ag},
  rem.length+(2-ph)=r->ph<=2->listed.size=ops.size->rem.Pairwise (·< ·)->
  (∀i,i<ops.size->(listed.getD i true=false↔i∈rem\/(i=k+1/\ph<1)\/(i=k+2/\ph<2)))->(∀i,i∈rem->k+3<=i/\i<ops.size)->
  (∀(j:Nat) (o:Oper),ops[j]?=some o->listed.getD j true=true->∀e∈o.after.toList,Region.binds .any e=true->listed.getD e.on false=true)->
  bT n0 gl nt wv G ρ lam a st->iY w0 G0 ρ0 wv G ρ->tY G b->(ph<2->wv=w.setCells b pos us/\w.heap[b]?=some (.cells c1 E fz))->(ph=2->wv=w)->
  a.tmps.getD d undef=v1->a.tmps.getD i0 undef=vi->a.eval xo=vx->(ph=1->a.tmps.getD e undef=v2)->st.aR e=.undef->
  qW P gl (rem.map (λi=>ts.getD i ⟨0,default,{}⟩)) st K->wpAny P .any ops Q r listed a w:=by
 have fQ:=(aAU.1 kZ).1;have hf:=(aAU.1 qR).1;intro r;induction r with
 |zero=>
  intro rem ph listed w wv G a st ax JU cg jo ie kx ig p f iI tH mK cc xi Fc Fe Ff hs;have:rem=[]:=List.eq_nil_of_length_eq_zero axW;subst this;have ai6:ph=2:=axW;have ai7:=mK ai6;subst ai7;refine⟨?_,aV _ _ (f.after (p.after hs))⟩;unfold Region.ready;rw[List.filter_eq_nil_iff];intro i hi;have hi:=aBi.1 hi;cases aI:listed.getD i true with
  |true=>simp
  |false=>
   rcases(ie i hi).1 aI with h|⟨_,h⟩|⟨_,h⟩
   .simp at h
   .omega
   .omega
 |succ r ih=>
  intro rem ph listed w wv G a st ax JU cg jo ie kx ig p f iI tH mK cc xi Fc Fe Ff hs;have iX:∀i,i<ops.size->∀j d,(listed.setIfInBounds i true).getD j d=if j=i then true else listed.getD j d:=by
   intro i hi j d;by_cases h:i=j
   .subst h;simp[show i<listed.size by omega]
   .have cG:j≠i:=λe=>h e.symm;simp[h,cG]
  have zk:∀i,i<ops.size->(∀o,ops[i]?=some o->∀e∈o.after.toList,Region.binds .any e=true->listed.getD e.on false=true)->∀(j:Nat) (o:Oper),ops[j]?=some o->(listed.setIfInBounds i true).getD j true=true->∀e∈o.after.toList,Region.binds .any e=true->(listed.setIfInBounds i true).getD e.on false=true:=by
   intro i hi iH j o qY qZ e he au;rw[iX i hi]at qZ⊢;by_cases aK:j=i
   .subst aK;rw[iH o qY e he au];simp
   .simp only[aK,aAC]at qZ;rw[ig j o qY qZ e he au];simp
  refine⟨λtw=> ?_,λi hi=> ?_⟩
  .refine absurd tw (Qy mL cg ?_);by_cases sh:ph<2
   .exact⟨k+2,hf,(ie _ hf).2 (.inr (.inr ⟨rfl,sh⟩))⟩
   .cases rem with
    |nil=>simp at ax;omega
    |cons j rem=>
     have:=kx j axX;exact⟨j,this.2,(ie j this.2).2 (.inl axX)⟩
  .obtain⟨⟨aA,dV⟩,iH⟩:=(JT i).1 hi;have bd:=aA3 aA;rcases(ie i aA).1 dV with nz|⟨rfl,h1⟩|⟨rfl,sh⟩
   ·
    obtain⟨l1,l2,rfl⟩:=List.append_of_mem nz;have Fg:=kx i nz;obtain⟨m',t,aC,QA,c2,c3,c4,c5,eI,bQ,e0⟩:=rU i Fg.1 aA _ bd;have ly:ts.getD i ⟨0,default,{}⟩=t:=by rw[aAL,aC];rfl
    rw[aAy,aAP,ly]at hs;have JJ:=JF (l1:=l1.map λi=>ts.getD i ⟨0,default,{}⟩) (λx ak=>by
     simp at ak;obtain⟨j,aK,rfl⟩:=ak;have xg:j∈l1++i::l2:=aAB _ aK;have QB:=kx j xg;have n9:=by
      rw[aCd]at jo;exact jo.2.2 j aK i axX
     rcases tW j i n9 QB.1 aA with hp|hp
     .exfalso;have:=xw ig ops.size i _ bd (iH _ bd) hp;have sh:=(ie j QB.2).2 (.inl xg);rw[aBd,aA3 (show j<listed.size by omega)]at this sh;simp at this sh;rw[this]at sh;simp at sh
     .rwa [ly]at hp) hs
    obtain⟨cI,fa,ky⟩:=JJ;rw[<-aAy]at ky;have ai8:=by
     have:=fa.mono (K:=λs=>s=cI) rfl;unfold kp at this;rw[ai0 QA eI]at this;simp at this;unfold step1 at this;rw[c2]at this;omega
    have QC:cI.aR e=.undef:=by
     rw[fa.aR e (λh=> ?_) (λh=>e0 (vq (E7 (fa.k e h))))]
     .omega
     .rcases Qb h with h|h
      .rw[c5]at h;exact(bQ e h).2.2.1 rfl
      .exact e0 (vq h)
    have zz:∀j,j∈l1++l2->j∈l1++i::l2/\j≠i:=by
     intro j aK;rw[aCd]at jo;rcases aAT.1 aK with h|h
     .exact⟨aAB _ h,by have:=jo.2.2 j h i axX;omega⟩
     .exact⟨aAN _ (by simp[h]),azO⟩
    have QD:(l1++l2).Pairwise (·< ·):=by
     rw[aCd]at jo⊢;exact⟨jo.1,(aCJ.1 jo.2.1).2,λx ak y wa=>jo.2.2 x ak y (by simp[wa])⟩
    have tz:(l1++l2).length+(2-ph)=r:=by simp at ax⊢;omega
    have QE:∀j,j<ops.size->((listed.setIfInBounds i true).getD j true=false↔j∈l1++l2\/(j=k+1/\ph<1)\/(j=k+2/\ph<2)):=by
     intro j aK;rw[iX i aA];by_cases n9:j=i
     .subst n9;simp only[if_true,aCp,aCK,not_or];exact⟨λh=>(zz j h).2 rfl,λh=>axW,λh=>axW⟩
     .simp only[n9,aAC];rw[ie j aK];simp[n9]
    cases aiZ p iI QA c4 eI ai8 with
    |st a6 off vs c u6 qG G' aT q1 bF cE ei gF jD oP pI qN=>
     subst qN;have ai9:w.heap[a6]?=some (.cells c u6 qG):=by
      rcases aA1 ph 2 with h|h
      .rw[<-cE,(tH h).1,JR q1]
      .rw[<-mK axW];omega
     refine Jb bd c3 (gF w ai9) ?_;rw[bF];refine ih (rem:=l1++l2) (ph:=ph) (wv:=wv.setCells a6 off vs) tz JU ayK QD QE (λj aK=>kx j (zz j aK).1) (zk i aA iH) ⟨jD,p.eO.good oP,p.sz⟩ ⟨f.good.trans oP,f.pre⟩ pI (λh=> ?_) (λh=>by rw[mK h]) cc xi Fc Fe QC ky;obtain⟨h1,sh⟩:=tH h;exact⟨by rw[h1,Qx (aAt q1)],by rw[JR (aAt q1)];omega⟩
    |j0 q v aT q1 bF cE ei=>
     subst ei;obtain⟨bJ,tZ,cq,im⟩:=bQ q q1;refine BU bd c3 (bF w) ?_;rw[q1];refine ih (rem:=l1++l2) (ph:=ph) (wv:=wv) tz JU ayK QD QE (λj aK=>kx j (zz j aK).1) (zk i aA iH) ⟨cE,p.eO,ax5⟩ f iI tH mK (by rw[zD bJ];omega) (by rw[zD tZ];omega) (by rw[Qz im];omega) (λh=>by rw[zD cq];exact Fe h) QC ky
   ·
    have ai':ph=0:=axW;subst ai';refine BU kZ fD (EN a w cc xi) ?_;rw[nC];have se:=aAI he p.sz;have eh:st.set e .undef=st:=by
     obtain⟨aR,bH,s⟩:=st;simp[ag.set,ag.mk.injEq,aCn];funext t;simp[dh];by_cases h:t=e
     .subst h;simp;exact Ff.symm
     .simp[h]
    have dz:=by
     have:=p.rel.set (v:=v2) (x:=.undef) se (.cp (.undef _));rwa [eh]at this
    refine ih (rem:=rem) (ph:=1) (wv:=wv) axW axW ayK jo (λj aK=> ?_) kx (zk _ fQ iH) ⟨dz,p.eO,ax5⟩ f iI (λ_=>tH axW) (λh=>axW) (by rw[zD ai2];omega) (by rw[zD ai3];omega) (by rw[Qz ai4];omega) (λ_=>by rw[qQ se,aAD rfl]) Ff hs;rw[iX _ fQ];by_cases vv:j=k+1
    .subst vv;simp only[if_true,aCp,aCK,not_or];exact⟨λh=>by have:=kx _ h;omega,λh=>axW,λh=>axW⟩
    .simp only[vv,aAC];rw[ie j aK];simp[vv]
   ·
    have aja:ph=1:=by
     rcases aA1 ph 1 with h|h
     .exfalso;have:=xw ig ops.size _ _ bd (iH _ bd) ai5;have av:=(ie _ fQ).2 (.inr (.inl ⟨rfl,h⟩));rw[aBd,aA3 (show k+1<listed.size by omega)]at this av;simp at this av;rw[this]at av;simp at av
     .omega
    subst aja;obtain⟨aj,aF⟩:=tH axW;refine Jb qR mH (EO a w (Fe rfl) Fc aF) ?_;rw[E1,<-aj];refine ih (rem:=rem) (ph:=2) (wv:=wv) axW axW ayK jo (λj aK=> ?_) kx (zk _ hf iH) p f iI (λh=>axW) (λ_=>rfl) cc xi Fc (λh=>axW) Ff hs;rw[iX _ hf];by_cases vv:j=k+2
    .subst vv;simp only[if_true,aCp,aCK,not_or];exact⟨λh=>by have:=kx _ h;omega,λh=>axW,λh=>axW⟩
    .simp only[vv,aAC];rw[ie j aK];simp[vv]
theorem ajb{an:eo}{m:fl}{i:I}(h:jh P an m o=some i):oF i=false:=by
 cases hi:oF i with
 |false=>rfl
 |true=>
  unfold jh at h;split at h;all_goals
   (repeat' (first
    |(simp[aA8,aAq,aA0,aAe,reduceCtorEq]at h)
    |(obtain⟨_,_,h⟩:=h)
    |(done)
    |(exact h.elim)
    |(unfold yO at h)
    |(split at h)))
  all_goals grind[oF]
theorem QF{an:eo}{all:Array Oper}:∀{k:Nat} {l:List Oper} {m:fl} {is:List cf},hH P an nt all m l=some is->(∀j,j<k->∀g,is[j]?=some g->oF g.i=false)->(∀g,is[k]?=some g->oF g.i=true)->k<is.length->
  ∃cY cO eH d ins e m' f',l[k]?=some cY/\l[k+1]?=some cO/\l[k+2]?=some eH/\A9 P an cY cO eH=some (d,ins,e)/\d<nt/\e<nt/\is.drop k=⟨none,ins⟩::⟨none,.lR (some e)⟩::⟨none,.lR none⟩::f'/\hH P an nt all m' (l.drop (k+3))=some f'
 |k,[],m,is,h,_,_,aI=>by
  grind[hH]
 |k,o::l,m,is,h,ay,aq,aI=>by
  rcases vf h with⟨g,f',h1,av,rfl⟩|⟨cO,eH,bC,d,ins,e,f',rfl,ak,aY,he,av,rfl⟩
  .cases k with
   |zero=>
    have:=aq g rfl;obtain⟨c1,_⟩:=xl h1;rcases c1 with c1|c1
    all_goals grind[ajb,oF]
   |succ k=>
    obtain⟨cY,cO,eH,d,ins,e,m',ajc,q1,bF,cE,ei,gF,jD,oP,pI⟩:=QF (k:=k) av (λj aK n8 aC=>ay (j+1) axW n8 axY) (λn8 aC=>aq n8 axY) axY;exact⟨cY,cO,eH,d,ins,e,m',ajc,axY,axY,axY,ei,gF,jD,axY,axY⟩
  .cases k with
   |zero=>exact⟨o,cO,eH,d,ins,e,m,f',rfl,rfl,rfl,ak,aY,he,rfl,axY⟩
   |succ k=>
    obtain⟨s,z,iQ,y,sz,b1,rfl,iW⟩:=vb ak;have:=ay 0 axW _ rfl;grind[oF]
theorem QG{an:eo}{all:Array Oper}:∀{l:List Oper} {m:fl} {is:List cf},hH P an nt all m l=some is->(∀o,o∈l->(∃t s f,o.op=.fieldAddr t (.tmp s) f)\/(∃t s x,o.op=.store t (.tmp s) x))->∀(i:Nat) (o:Oper),l[i]?=some o->
  ∃m' g,is[i]?=some g/\qP P an m' o g.i/\pw all o=some g.g/\kr nt o=true/\g.i.dst=o.dst
 |[],m,is,h,_,i,o,bd=>axY
 |o::l,m,is,h,hp,i,o',bd=>by
  rcases vf h with⟨g,f',h1,av,rfl⟩|⟨cO,eH,bC,d,ins,e,f',rfl,ak,aY,he,av,rfl⟩
  .cases i with
   |zero=>
    simp at bd;subst bd;obtain⟨c1,c2,c3,c4⟩:=xl h1;exact⟨m,g,rfl,c1,c2,c3,c4⟩
   |succ i=>
    obtain⟨m',n8,k1,k2⟩:=QG av (λo bd=>hp o (by simp[bd])) i o' (by simpa using bd);exact⟨m',n8,by simpa using k1,k2⟩
  .obtain⟨s,z,iQ,y,sz,b1,rfl,iW⟩:=vb ak;obtain⟨t,u,b2,bt,sc,x,t3,q1,_⟩:=iW.ex;simp_all
def aC1:=@List.mem_range'_1
theorem ajd{aR:Array Value}{e:Nat}:aR.setIfInBounds e (aR.getD e undef)=aR:=by
 apply Array.ext_getElem?;intro j;rw[aBd,aCz];grind
theorem aje(P:Program)(gl:Nat->List D):Qr P gl:=by
 intro n0 nt an m ops is ts k listed w w0 G G0 ρ ρ0 lam a st K Q az hB oO B7 mL cg pN p f hs tW aV;have dV:=E9 ops.toList.length (aAd _) az;have pD:ts.length=ops.size:=axZ;have ajf:=aB1.1 (show is.findIdx? (λg=>oF g.i)=some k from oO);obtain⟨qI,avC,t'⟩:=ajf;have j4:k<ops.size:=axZ;obtain⟨cY,cO,eH,d,ins,e,m',f',l1,l2,e5,ak,aY,he,ajg,tR⟩:=QF (k:=k) az (λj aK g aC=>axZ) (λg aC=>by
   simp_all) qI
 obtain⟨s,z,i0,y,sz,b1,rfl,iW⟩:=vb ak;have y7:ops[k]?=some cY:=axY;have kZ:ops[k+1]?=some cO:=axY;have qR:ops[k+2]?=some eH:=axY;have hf:=(aAU.1 qR).1;have JV:∀j,is[k+j]?=(is.drop k)[j]?:=λj=>axX;have qX:is[k]?=some ⟨none,.kO d s z i0 y sz b1⟩:=by have:=JV 0;simp_all
 have nY:is[k+1]?=some ⟨none,.lR (some e)⟩:=axY;have k4:is[k+2]?=some ⟨none,.lR none⟩:=by have:=JV 2;simp_all
 unfold D2 at B7;rw[qX]at B7;rw[nY]at B7;simp only[aAc,aAx,aBi,aBA]at B7;obtain⟨⟨⟨t1,t2⟩,t3⟩,t4⟩:=B7;have pO:∀j,k+3<=j->∀o g,ops[j]?=some o->is[j]?=some g->D1 e (e::d::s::z::i0::y.slots) o g=true:=by
  intro j aK o g bd aC;rcases t4 j (aAU.1 bd).1 with h|h
  .grind[Nat.blt_eq]
  simp_all
 have oT:∀i,i<ops.size->is[i]?=some (ts.getD i ⟨0,default,{}⟩).g:=by
  intro i hi;rw[<-hB,aA4,tX axW];rfl
 have xy:∀o g,D1 e (e::d::s::z::i0::y.slots) o g=true->o.guard=none/\e∉g.rd/\(∀q,o.dst=some q->q∉e::d::s::z::i0::y.slots)/\((∃t s f,o.op=.fieldAddr t (.tmp s) f)\/(∃t s x,o.op=.store t (.tmp s) x)):=by
  intro o g h;unfold D1 at h;simp at h;obtain⟨⟨⟨h1,sh⟩,av⟩,aW⟩:=h;have ajh:∀{i:Nat} {l:List Nat},dk i l=false->i∉l:=λh hm=>by rw[pG.2 hm]at h;grind
  refine⟨h1,ajh sh,λq aS=> ?_,?_⟩
  .simp_all
  .split at aW
   .rename_i t s f bz;exact .inl ⟨t,s,f,bz⟩
   .rename_i t s x bz;exact .inr ⟨t,s,x,bz⟩
   .simp at aW
 have fQ:ops.size-k=(ops.size-(k+1))+1:=axW;rw[fQ];have Fh:∀i,i<ops.size->(listed.getD i true=false↔k<=i):=by
  intro i hi;have:=pN i hi;cases aI:listed.getD i true with
  |true=>simp;have:=this.1 aI;omega
  |false=>
   simp;rcases aA1 i k with h|h
   .rw[this.2 h]at aI;simp at aI
   .exact h
 have ig:∀(j:Nat) (o:Oper),ops[j]?=some o->listed.getD j true=true->∀e∈o.after.toList,Region.binds .any e=true->listed.getD e.on false=true:=by
  intro j o qY aI q aS au;have aK:j<ops.size:=(aAU.1 qY).1;have vv:=(pN j aK).1 aI;unfold uZ at mL;have aW:=aAx.1 mL j (aBi.2 aK);rw[qY]at aW;simp only[aAx,aBA,aAE]at aW;have bL:q.on<j:=by
   rcases aW q aS with h|h
   .rw[au]at h;simp at h
   .simpa [aCE]using h
  have cW:=(pN q.on axW).2 axW;rw[aBd,aA3 (show q.on<listed.size by omega)]at cW⊢;exact cW
 refine⟨λtw=>absurd tw (Qy mL cg ⟨k,j4,(Fh k j4).2 (aAd _)⟩),λi hi=> ?_⟩;obtain⟨⟨aA,q0⟩,iH⟩:=(JT i).1 hi;have zA:i=k:=by
  have h1:=(Fh i aA).1 q0;rcases aA1 k i with h|h
  .exfalso;rcases t2 i aA with sh|sh
   .have:=aAr sh;omega
   .have:=xw ig ops.size i _ (aA3 aA) (iH _ (aA3 aA)) sh;have av:=(Fh k j4).2 (aAd _);rw[aBd,aA3 (show k<listed.size by omega)]at this av;simp at this av;rw[this]at av;simp at av
  .omega
 subst zA;have aji:ts.drop i=ts.getD i ⟨0,default,{}⟩::ts.getD (i+1) ⟨0,default,{}⟩::ts.getD (i+2) ⟨0,default,{}⟩::ts.drop (i+3):=by
  have step:∀j,j<ops.size->ts.drop j=ts.getD j ⟨0,default,{}⟩::ts.drop (j+1):=λj aK=>by
   rw[aBg axW,aAL,aAj axW];rfl
  rw[step i j4,step (i+1) axW,step (i+2) hf]
 rw[aji]at hs;obtain⟨s1,gE,s2,gW,kE,gd,ky⟩:=hs;have g0:(ts.getD i ⟨0,default,{}⟩).g=⟨none,.kO d s z i0 y sz b1⟩:=by have:=oT i j4;rw[qX]at this;simpa using this.symm
 have g1:(ts.getD (i+1) ⟨0,default,{}⟩).g=⟨none,.lR (some e)⟩:=by have:=oT (i+1) axW;rw[nY]at this;simpa using this.symm
 have g2:(ts.getD (i+2) ⟨0,default,{}⟩).g=⟨none,.lR none⟩:=by have:=oT (i+2) hf;rw[k4]at this;simpa using this.symm
 have bN:step (bx P gl) gl (.kO d s z i0 y sz b1) st (λq=>q=s1):=by have:=gE.mono (K:=λq=>q=s1) rfl;rw[g0]at this;exact this
 have b5:s1.dI (some e) .undef=s2:=by have:=gW.mono (K:=λq=>q=s2) rfl;rw[g1]at this;exact this
 have dq:s2.dI none .undef=kE:=by have:=gd.mono (K:=λq=>q=kE) rfl;rw[g2]at this;exact this
 obtain⟨v1,v2,w1,b,pos,us,xo,cr,G',n,c1,E,fz,oa,b',dp,dF,lz,sd,zn,Fi,B8,Fj,JW⟩:=EM p iW bN;obtain⟨n4,gG,ic,vd⟩:=ES iW oa;obtain⟨t,u,b2,bt,sc,x,JX,q1,bF,cE,ei,gF,jD,oP,pI,qN,_,_,_,_,_,QH,_⟩:=iW.ex;have ajj:xo=x:=by
  rw[oP]at oa;have:x=xo:=by simpa [Op.operands]using oa
  exact this.symm
 have lA:d<a.tmps.size:=aAI aY p.sz;have se:e<a.tmps.size:=aAI he p.sz;have ajk:∀q',xo=.tmp q'->q'∈y.slots:=by
  intro q' aS;rw[ajj]at aS;subst aS;simp[bO,aAe]at QH;rw[<-QH];simp[O.slots]
 refine BU y7 cE b' ?_;rw[bF];have h1:=Fi.set lA Fj;have dz:bS gl (w1.setCells b pos us) G' ρ lam (a.put (some d) v1).tmps kE:=by
  have sh:=h1.set (d:=e) (v:=(a.tmps.setIfInBounds d v1).getD e undef) (x:=.undef) (by simpa using se) (.cp (.undef _));rw[ajd]at sh;rw[<-dq,<-b5,<-JW];exact sh
 have ajl:(List.range' (i+3) (ops.size-(i+3))).map (λi=>ts.getD i ⟨0,default,{}⟩)=ts.drop (i+3):=by
  apply aBV;intro j;rw[aA4,aBT];by_cases aK:j<ops.size-(i+3)
  .rw[List.getElem?_range' aK,aBp,Nat.one_mul,tX axW]
  .rw[aCj (by simpa using aK),aCj axW];rfl
 have iX:∀j d,(listed.setIfInBounds i true).getD j d=if j=i then true else listed.getD j d:=by
  intro j d;rw[aBd,aBd,aCz];by_cases h:i=j
  .subst h;simp[show i<listed.size by omega]
  .have cG:j≠i:=λe=>h e.symm;simp[h,cG]
 refine ai1 (ts:=ts) (an:=an) (k:=i) (d:=d) (e:=e) (i0:=i0) (b:=b) (pos:=pos) (xo:=xo) (v1:=v1) (v2:=v2) (vi:=a.tmps.getD i0 undef) (vx:=a.eval xo) (us:=us) (c1:=c1) (E:=E) (fz:=fz) mL kZ jD gF qR qN pI he dp dF (aAt ic) (aAt vd)
  (λq aS=>aAt (n4 q aS).1) t3 ?_ (λj ku h1 sh av=>tW j ku h1 sh av) aV (ops.size-(i+1)) (rem:=List.range' (i+3) (ops.size-(i+3))) (ph:=0) (wv:=w1.setCells b pos us)
  (by simp;omega) axW ayK List.pairwise_lt_range' (λj aK=> ?_) (λj aK=> ?_) ?_ ⟨dz,p.eO.good B8,ax5⟩ ⟨f.good.trans B8,f.pre⟩ ⟨_,n,zn,axX,axX⟩ (λ_=>⟨rfl,lz⟩) (λh=>axW)
  (by rw[qQ lA,aAD rfl]) (zD (aAt gG)) (eval_put λq aS=>(n4 q aS).2) (λh=>axW) ?_ (by rw[ajl];exact ky)
 .intro j aK jM o bd;have hp:=xy o _ (pO j aK o _ bd (oT j jM));obtain⟨m2,g,bW,fb,jP,oc,B9⟩:=QG tR (λo' pC=>by
   obtain⟨q,aS⟩:=List.getElem?_of_mem pC;rw[aBT]at aS;have Fk:ops[i+3+q]?=some o':=by simpa using aS
   have tE:=(aAU.1 Fk).1;exact(xy o' _ (pO _ axW o' _ Fk (oT _ tE))).2.2.2) (j-(i+3)) o (by rw[aBT,show i+3+(j-(i+3))=j by omega];simpa using bd)
  have ajm:f'[j-(i+3)]?=is[j]?:=by
   have:=JV (j-i);rw[show i+(j-i)=j by omega,ajg,show j-i=(j-(i+3))+1+1+1 by omega]at this;simpa using this.symm
  rw[ajm,oT j jM]at bW;simp[aAe]at bW;subst bW;refine⟨m2,_,tX axW,fb,?_,hp.1,oc,B9,hp.2.2.2,λq aS=> ?_,hp.2.1⟩
  .unfold pw at jP;rw[hp.1]at jP;simpa using jP.symm
  .have ay:=hp.2.2.1 q aS;simp[aAs,not_or]at ay;exact⟨aAt ay.2.1,aAt ay.2.2.2.2.1,aAt ay.1,λq' Fk h=>ay.2.2.2.2.2 (by rw[h];exact ajk q' Fk)⟩
 .rw[iX];by_cases n9:j=i
  .subst n9;simp only[if_true,aCp,aCK,not_or,aC1];exact⟨λh=>axW,λh=>axW,λh=>axW⟩
  .simp only[n9,aAC,Fh j aK,aC1];omega
 .rw[aC1]at aK;omega
 .intro j o qY qZ q aS au;rw[iX]at qZ⊢;by_cases aK:j=i
  .subst aK;rw[iH o qY q aS au];simp
  .simp only[aK,aAC]at qZ;rw[ig j o qY qZ q aS au];simp
 .rw[<-dq,<-b5];simp[ag.dI,ag.set,iC]
theorem ajn(P:Program)(gl:Nat->List D):xm P gl:=aiR P gl (aje P gl)
def aB2:=@Go.wpIn_mono
theorem ajo{an:eo}{m:fl}{i:I}(h:jh P an m o=some i):∀c,o.op≠.defer c:=by
 intro c he;simp_all[jh]
theorem QI{l n:Nat}{next:Act->World->Prop}(aY:∀c,o.op≠.defer c)(h:o.wp P a w next Q):o.wpIn (Fence.wide.inRound l) n P a w next Q:=by
 refine⟨λ_ _=>trivial,?_⟩;rw[Oper.semAt_eq _ _ _ aY];unfold Oper.wp at h;generalize (execOp a.eval o).run P w=r at h;cases r with
 |ok vw w'=>
  cases vw with
  |value v=>exact h
  |skip=>exact h
  |defer d=>exact h
  |enter f args=>exact⟨λh=>by grind[Fence.wide,Fence.inRound],CallsIn.inRound l (callsIn_wide.2 h)⟩
  |row r args=>
   refine⟨λh=>by grind[Fence.wide,Fence.inRound],?_⟩;intro c cs _;obtain⟨v,bW,h1,sh⟩:=h c cs;exact⟨v,bW,h1,stepsIn_wide.2 sh⟩
  |_=>exact h.elim
 |halt e w'=>cases e<;>first|exact h|exact h.elim
theorem JY{mO n k:Nat}{ops:Array Oper}{rest:List Nat}(bd:ops[k]?=some o)(aC:o.guard=none)(aY:∀c,o.op≠.defer c)(h:o.wp P a w (λa' w'=>wpOpsIn (Fence.wide.inRound mO) n P ops Q rest a' w') Q):
  wpOpsIn (Fence.wide.inRound mO) n P ops Q (k::rest) a w:=by
 simp_all[wpOpsIn,Region.wanted,QI]
theorem JZ{mO n:Nat}{ops:Array Oper}{an:eo}:∀(fuel:Nat) {l:List Oper} {k:Nat} {m:fl} {is:List cf} {w:World} {G:bI} {ρ:List Nat} {lam:Nat->Option Nat} {a:Act} {st:ag},l.length<=fuel->
  (∀j,ops[k+j]?=l[j]?)->hH P an nt ops m l=some is->bT n0 gl nt w G ρ lam a st->iY w0 G0 ρ0 w G ρ->steps (bx P gl) gl is st K->
  (∀a' w',cJ n0 gl nt w0 G0 ρ0 K a' w'->Q .normal a' w')->wpOpsIn (Fence.wide.inRound mO) n P ops Q (List.range' k l.length) a w
 |_,[],k,m,is,w,G,ρ,lam,a,st,_,_,az,p,f,hs,aV=>by
  simp[hH,aAe]at az;subst az;exact aV _ _ (f.after (p.after hs))
 |0,o::l,k,m,is,w,G,ρ,lam,a,st,zo,_,_,_,_,_,_=>axY
 |fuel+1,o::l,k,m,is,w,G,ρ,lam,a,st,zo,aI,az,p,f,hs,aV=>by
  have bd:ops[k]?=some o:=by have:=aI 0;simp_all
  rcases vf az with⟨g,f',h1,av,rfl⟩|⟨cO,eH,bC,d,ins,e,f',rfl,ak,aY,he,av,rfl⟩
  .obtain⟨c1,c2,c3,c4⟩:=xl h1;obtain⟨ajp,i⟩:=g;rw[aAu,aBl];simp[wpOpsIn,bd];have next:∀a' w',cJ n0 gl nt w G ρ (λst=>steps (bx P gl) gl f' st K) a' w'->wpOpsIn (Fence.wide.inRound mO) n P ops Q (List.range' (k+1) l.length) a' w':=by
    rintro a' w' ⟨aF,G',ρ',lam',aT,aj,aZ,bP,cK,dO⟩;refine JZ fuel (l:=l) (k:=k+1) (m:=uY P m o) axY (λj=> ?_) av ⟨aZ,aj,aF⟩ ⟨f.good.trans bP,λi b h=>cK i b (f.pre i b h)⟩ dO aV;have:=aI (j+1);grind
   have J0:step (bx P gl) gl i st (λst=>steps (bx P gl) gl f' st K)->o.wpIn (Fence.wide.inRound mO) n P a w (λa' w'=>wpOpsIn (Fence.wide.inRound mO) n P ops Q (List.range' (k+1) l.length) a' w') Q:=by
    intro hs;rcases c1 with c1|rfl
    .exact QI (ajo c1) (Oper.wp_mono next (I0 p c1 c3 hs))
    .exact hs.elim
   rcases I' c2 p.rel.aR with⟨rfl,hw⟩|⟨s,want,rfl,⟨b,au,hw⟩|⟨au,hw⟩|⟨g1,g2⟩⟩
   .rw[hw];simp;exact J0 hs
   .rw[hw];simp only[steps,au]at hs;cases az:cond want b (!b)with
    |true=>simp_all
    |false=>rw[az]at hs;simp;exact⟨λ_ _=>trivial,next _ _ (BR p c4.symm c3 hs)⟩
   .rw[hw];simp[steps,au]at hs;simp;exact⟨λ_ _=>trivial,next _ _ (BR p c4.symm c3 hs)⟩
   .exfalso;simp[steps]at hs;first
     |exact hs
     |(split at hs
       .rename_i b au;exact g1 b au
       .rename_i au;exact g2 au
       .exact hs)
  .obtain⟨s,z,i,y,sz,b1,rfl,iW⟩:=vb ak;have kZ:ops[k+1]?=some cO:=axY;have qR:ops[k+2]?=some eH:=axY;have gq:=hs;obtain⟨v1,v2,w1,b,pos,us,xo,cr,G',n',c1,E,fz,r0,bN,b5,dq,n7,vg,gf,ij,qS,pJ,BV⟩:=EM p iW gq;obtain⟨n4,gG,ic,vd⟩:=ES iW r0;obtain⟨t,u,b2,bt,sc,x,t3,q1,bF,cE,ei,gF,jD,oP,pI,qN,_⟩:=iW.ex;have lA:=aAI aY p.sz;have se:=aAI he p.sz;rw[aAu,aAu,aAu,aBl,aBl,aBl];refine JY bd cE axY (gb bN ?_);rw[bF];refine JY kZ jD axY (gb (b5 _ _ ?_ ?_) ?_)
   .rw[qQ lA,aAD rfl]
   .rw[qQ lA,aAG (aAt gG)]
   rw[gF];refine JY qR qN axY (u1 (dq _ _ ?_ ?_ n7) ?_)
   .rw[qQ ayP,aAD rfl]
   .rw[eval_put (λq aS=>(n4 q aS).1),eval_put (λq aS=>(n4 q aS).2)]
   rw[pI];have dz:=Jc (v2:=v2) ij pJ lA se;refine JZ fuel (l:=bC) (k:=k+1+1+1) (m:=m) axZ (λj=> ?_) av ⟨dz,p.eO.good qS,azs⟩ ⟨f.good.trans qS,f.pre⟩ BV aV;have:=aI (j+3);grind
theorem ajq{mO n:Nat}{K:aB->ag->Prop}{b:eG}{y:Code}(wa:∀{w:World} {G:bI} {ρ:List Nat} {lam:Nat->Option Nat} {a:Act} {st:ag},bT n0 gl nt w G ρ lam a st->iY w0 G0 ρ0 w G ρ->
   run (bx P gl) gl b st K->y.wpIn (Fence.wide.inRound mO) n P (j9 n0 gl nt w0 G0 ρ0 K) a w) {e:Exit} {a':Act} {w':World}
  (h:j9 n0 gl nt w0 G0 ρ0 (λx st=>match x with|.normal=>run (bx P gl) gl b st K|x=>K x st) e a' w'):
  Exit.then (y.wpIn (Fence.wide.inRound mO) n P (j9 n0 gl nt w0 G0 ρ0 K)) (j9 n0 gl nt w0 G0 ρ0 K) e a' w':=by
 cases e with
 |normal=>
  obtain⟨aF,G',ρ',lam',aT,aj,aZ,bP,cK,dO⟩:=h;exact wa ⟨aZ,aj,aF⟩ ⟨bP,cK⟩ dO
 |exit i=>exact h
 |ret=>exact h
 |_=>exact h.elim
theorem QJ{mO n:Nat}{an:eo}{m:fl}:∀(c:Code) {l bC:List (List Nat×List Nat)} {vc:eG} {w0 w:World} {G0 G:bI} {ρ0 ρ:List Nat} {lam:Nat->Option Nat} {a:Act} {st:ag} {K:aB->ag->Prop},
  dm P an nt m c l=some (vc,bC)->kt vc=true->bT n0 gl nt w G ρ lam a st->iY w0 G0 ρ0 w G ρ->run (bx P gl) gl vc st K->c.wpIn (Fence.wide.inRound mO) n P (j9 n0 gl nt w0 G0 ρ0 K) a w:=by
 intro c;induction c with
 |skip=>
  intro l bC vc w0 w G0 G ρ0 ρ lam a st K az hv p f ax;obtain⟨rfl,rfl⟩:=az;exact wpIn_skip (f.after (p.after ax))
 |region id ops BW=>
  intro l bC vc w0 w G0 G ρ0 ρ lam a st K az hv p f ax;simp[dm]at az;split at az
  .rename_i is mM;cases BW with
   |true=>
    simp at az;split at az
    .grind[kt]
    .split at az
     .grind[Je,zr,kt]
     .obtain⟨rfl,rfl⟩:=az;exact ax.elim
   |false=>
    obtain⟨rfl,rfl⟩:=az;refine wpIn_region ?_;have:List.range ops.size=List.range' 0 ops.toList.length:=azt;rw[this];exact JZ _ (aAd _) (λj=>axX) mM p f ax λa' w' h=>h
  simp_all
 |seq x y tM tN=>
  intro l bC vc w0 w G0 G ρ0 ρ lam a st K az hv p f ax;simp[dm]at az;split at az
  .rename_i vx l1 ak;split at az
   .rename_i BX l2 wa;obtain⟨rfl,rfl⟩:=az;simp[kt,aAc]at hv;refine wpIn_seq (aB2 (tM ak hv.1 p f ax) λe a w h=> ?_);exact ajq (λp f ax=>tN wa hv.2 p f ax) h
   simp_all
  simp_all
 |cond c x y tM tN=>
  intro l bC vc w0 w G0 G ρ0 ρ lam a st K az hv p f ax;simp[dm]at az;split at az
  .rename_i vx co l1 bd ak;split at az
   .rename_i BX l2 wa;obtain⟨rfl,rfl⟩:=az;simp[kt,aAc]at hv;simp[run]at ax;obtain⟨L,ew⟩:=dQ bd p.rel;split at ax
    .rename_i t aE;rw[aE]at ew;cases t with
     |true=>exact wpIn_cond_true ew.bool (tM ak hv.1 p f ax)
     |false=>exact wpIn_cond_false ew.bool (tN wa hv.2 p f ax)
    .exact ax.elim
   simp_all
  simp_all
 |block i b ih=>
  intro l bC vc w0 w G0 G ρ0 ρ lam a st K az hv p f ax;simp[dm]at az;split at az
  .rename_i j1 l1 au;obtain⟨rfl,rfl⟩:=az;refine wpIn_block (aB2 (ih au hv p f ax) λe a w h=> ?_);cases e with
   |normal=>exact h
   |ret=>exact h
   |exit j=>
    obtain⟨aF,G',ρ',lam',aT,aj,aZ,bP,cK,dO⟩:=h;simp[Exit.inBlock];by_cases aK:j=i
    .subst aK;simp at dO;simp;exact⟨aF,G',ρ',lam',aT,aj,aZ,bP,cK,dO⟩
    .have:Nat.beq j i=false:=by simp_all[aBH]
     simp[this,cond]at dO;simp[aK,aAC];exact⟨aF,G',ρ',lam',aT,aj,aZ,bP,cK,dO⟩
   |_=>exact h.elim
  simp_all
 |loop b ih=>
  intro l bC vc w0 w G0 G ρ0 ρ lam a st K az hv p f ax;cases l with
  |nil=>grind[dm]
  |cons q l=>
   grind[dm,kt]
 |exit i=>
  intro l bC vc w0 w G0 G ρ0 ρ lam a st K az hv p f ax;simp[dm,aAe,aAJ]at az;obtain⟨rfl,rfl⟩:=az;exact wpIn_exit (f.after (p.after ax))
 |ret=>
  intro l bC vc w0 w G0 G ρ0 ρ lam a st K az hv p f ax;simp[dm,aAe,aAJ]at az;obtain⟨rfl,rfl⟩:=az;exact wpIn_ret (f.after (p.after ax))
 |rangeFunc g ps x y _ _=>
  intro l bC vc w0 w G0 G ρ0 ρ lam a st K az hv p f ax;simp[dm]at az;split at az
  .simp at az;grind[kt]
  simp_all
 |scope _=>grind[dm]
 |label _=>grind[dm]
 |goto _=>grind[dm]
 |refuse _=>
  intro l bC vc w0 w G0 G ρ0 ρ lam a st K az hv p f ax;simp[dm,aAe,aAJ]at az;obtain⟨rfl,rfl⟩:=az;exact ax.elim
def aCr:=@Go.RowKit.Below.heap_alloc
theorem QK{L:Loc}{v:Value}{x:ah}(h:di w G ρ lam L v x):df w G ρ v (lr x):=by
 rcases h.cases with h|⟨t,off,b,rfl,_,_⟩
 .rcases h.cases with h|⟨sz,l,rfl,eA⟩|⟨sz,m,us,rfl,eA⟩
  .cases h with
   |nil a sz=>exact .d _ _ (.kT _ _ _)
   |undef v=>exact .undef v
   |d v x cG=>exact .d v x cG
   |ptr _ _ _ cG=>exact .ptr _ _ _ cG
   |map _ _ cG=>exact .map _ _ cG
   |aN _ _ _ _ _ _ _ cG az aO=>exact .aN _ _ _ _ _ _ _ cG az aO
   |func _ _ _ _ _ h1 sh=>exact .func _ _ _ _ _ h1 sh
   |agg _ _ cG=>exact .agg _ _ cG
   |tuple _ _ cG=>exact .tuple _ _ cG
   |fY _ _ cG=>exact .fY _ _ cG
  .cases l<;>exact .d _ _ eA.rd
  .exact .undef _
 .exact .undef _
theorem avD{L:Loc}{v:Value}{x:ah}{sz:Nat}{l:List D}(h:dn w G ρ L v x)(aI:hr x=some (sz,l)):Rd w G v (.list sz l)/\v.oneCell'=true:=by
 have hs:∀{v:Value} {sz:Nat} {l:List D},Rd w G v (.list sz l)->v.oneCell'=true:=by
  intro v sz l h;cases h<;>rfl
 cases x with
 |d y=>
  cases y<;>simp[hr,aAe,aAJ,reduceCtorEq]at aI;obtain⟨rfl,rfl⟩:=aI;have cG:=h;cases cG with
  |d _ _ h=>grind
 |own ib bC=>
  simp[hr,aAe,aAJ]at aI;obtain⟨rfl,rfl⟩:=aI;cases bC with
  |nil=>
   have cG:=h;cases cG with
   |nil a _=>exact⟨.kT _ _ _,rfl⟩
  |cons d bC=>
   have cG:lU w G L v _ (d::bC):=h;grind[lU.rd]
 |gJ ib=>
  simp[hr,aAe,aAJ]at aI;obtain⟨rfl,rfl⟩:=aI;have cG:Rd w G v (.list ib []):=by
   rcases(show lU w G L v ib []\/∃cF,v=.slice cF 0 0 from h)with h|⟨cF,rfl⟩
   .exact h.rd
   .exact .kT _ _ _
  grind
 |_=>grind[hr]
theorem J1(o:Obj):da w G (w.alloc o) G:=by
 refine⟨λb off v h=> ?_,λb cO h=> ?_,λb n h=> ?_⟩
 .refine⟨?_,h.2⟩;have au:b<w.heap.size:=by
   have:=h.1;grind[World.cell?]
  rw[aCm (aCr w o b au)];exact h.1
 .obtain⟨h1,av,sh⟩:=h;exact⟨h1,av,(aCr w o b (aAU.1 sh).1).trans sh⟩
 .obtain⟨c,E,fz,sh,av⟩:=h;exact⟨c,E,fz,(aCr w o b (aAU.1 sh).1).trans sh,av⟩
theorem QL(o:Obj)(aA:∀b L n,G b=some (L,n)->b<w.heap.size)(L:Loc):e4 L L w G (w.alloc o) G:=
 λb _ au=>⟨aCr w o b (aA _ _ _ au),au⟩
theorem QM(o:Obj)(aA:∀b L n,G b=some (L,n)->b<w.heap.size):Good w G (w.alloc o) G where
 size:=axX
 iB b au _:=⟨aCr w o b au,rfl⟩
 new b n au dA:=absurd (aA _ _ _ dA) (aBv.2 au)
 old _ _ _ h:=h
 keep:=J1 o
 os:=rfl
 out:=rfl
structure Still(w0:World)(G0:bI)(ρ0:List Nat)(a:Act)(je:Nat->ah)(r:Loop)(W:World)(G:bI)(ρ:List Nat):Prop where
 aR:∀t,df W G ρ0 (a.tmps.getD t undef) (je t)
 l3:iY w0 G0 ρ0 W G ρ
 kF:W.heap[w0.heap.size+1]?=some (.loop r)
 xA:G (w0.heap.size+1)=none
 q2:W.heap[w0.heap.size]?=some (.deferred (some []))
 zE:G w0.heap.size=none
structure pP(gl:Nat->List D)(W:World)(G:bI)(ρ:List Nat)(s:aU):Prop where
 ob:ht W G ρ s
 eU:py gl W G
 lt:∀b L n,G b=some (L,n)->b<W.heap.size
theorem Still.rel{je:Nat->ah}{r:Loop}{W:World}{s:aU}(h:Still w0 G0 ρ0 a je r W G ρ)(hw:pP gl W G ρ s):bS gl W G ρ (λ_=>none) a.tmps ⟨je,λ_=>none,s⟩ where
 aR t:=.cp ((h.aR t).keep (da.refl _ _) λi b=>h.l3.pre i (b+1))
 bH t cs az:=axY
 nb _ _:=rfl
 ob:=hw.ob
 eU:=hw.eU
 lt:=hw.lt
theorem Still.put{je:Nat->ah}{r:Loop}{W:World}(h:Still w0 G0 ρ0 a je r W G ρ)(fN:Loop):Still w0 G0 ρ0 a je fN (W.putObj (w0.heap.size+1) (.loop fN)) G ρ:=by
 have aq:=sf (G:=G) (o':=.loop fN) h.kF rfl;exact⟨λt=>(h.aR t).keep aq λ_ _ h=>h,⟨h.l3.good.putObj h.kF rfl axW,h.l3.pre⟩,World.putObj_heap_same (aAU.1 h.kF).1,h.xA,(aCa axW).trans h.q2,h.zE⟩
theorem Still.QN{je:Nat->ah}{r:Loop}{W:World}{s:aU}(h:Still w0 G0 ρ0 a je r W G ρ)(hw:pP gl W G ρ s)(fN:Loop):pP gl (W.putObj (w0.heap.size+1) (.loop fN)) G ρ s:=by
 have aq:=sf (G:=G) (o':=.loop fN) h.kF rfl;have hs:=λL=>zt (w:=W) (o':=.loop fN) h.xA L;exact⟨hw.ob.bR aq (λ_=>hs _) (λ_ _=>hs _),hw.eU.bR aq,λb L n au=>by rw[World.putObj_size];exact hw.lt b L n au⟩
theorem Still.run{je:Nat->ah}{r:Loop}{W AS:World}{G':bI}{ρ':List Nat}(h:Still w0 G0 ρ0 a je r W G ρ)(aC:Good W G AS G')(cN:∀i b:Nat,ρ0[i]?=some b->ρ'[i]?=some b):
  Still w0 G0 ρ0 a je r AS G' ρ':=by
 have h1:=aC.iB _ (aAU.1 h.kF).1 (.inl h.xA);have sh:=aC.iB _ (aAU.1 h.q2).1 (.inl h.zE);exact⟨λt=>(h.aR t).keep aC.keep λ_ _ h=>h,⟨h.l3.good.trans aC,cN⟩,h1.1.trans h.kF,h1.2.trans h.xA,sh.1.trans h.q2,sh.2.trans h.zE⟩
theorem bS.wd{tmps:Array Value}(h:bS gl w G ρ lam tmps st):pP gl w G ρ st.s:=⟨h.ob,h.eU,h.lt⟩
end
section
variable {P:Program}{gl:Nat->List D}{n0 nt:Nat}{a:Act}{w w' w0:World}{G G' G0:bI}{ρ ρ' ρ0:List Nat}{lam lam':Nat->Option Nat}{st aT:ag}{o:Oper}{Q:Exit->Act->World->Prop}
def xB:Code->Option aB
 |.ret=>some .ret
 |.exit i=>some (.exit i)
 |_=>none
def nE(tmps:Array Value):List Nat->List Value->Array Value
 |p::ps,v::vs=>nE (tmps.setIfInBounds p v) ps vs
 |_,_=>tmps
theorem QO:∀(ps:List Nat) (vs:List Value) (tmps:Array Value),(nE tmps ps vs).size=tmps.size
 |[],_,_=>by simp[nE]
 |_::_,[],_=>by simp[nE]
 |p::ps,v::vs,tmps=>by simp[nE,QO ps vs]
theorem ajr(ps:List Nat)(vs:List Value)(tmps:Array Value):
  (((⟨ps⟩:Array Nat).zip (⟨vs⟩:Array Value)).foldl (λtmps (x:Nat×Value)=>match x with|(t,a)=>tmps.setIfInBounds t a) tmps)=nE tmps ps vs:=by
 have e:((⟨ps⟩:Array Nat).zip (⟨vs⟩:Array Value))=⟨ps.zip vs⟩:=axX;simp;induction ps generalizing vs tmps with
 |nil=>simp[nE]
 |cons p ps ih=>
  cases vs with
  |nil=>simp[nE]
  |cons v vs=>simp[aCR,aCT,nE];simp_all
theorem QP{gl:Nat->List D}{W:World}{G:bI}{ρ:List Nat}:∀{ps:List Nat} {vs:List Value} {xs:List ah} {tmps:Array Value} {st0:ag},bS gl W G ρ (λ_=>none) tmps st0->(∀p,p∈ps->p<tmps.size)->
  ck W G ρ vs xs->bS gl W G ρ (λ_=>none) (nE tmps ps vs) {st0 with aR:=yM st0.aR ps xs}
 |[],vs,xs,tmps,st0,h,_,_=>by simp_all[nE,yM]
 |p::ps,vs,xs,tmps,st0,h,hp,ax=>by
  cases ax with
  |nil=>simpa [nE,yM]using h
  |cons v x vs xs h1 sh=>
   exact QP (st0:=st0.set p x) (h.set (hp p axX) (.cp h1)) (λq aS=>by simpa using hp q (by simp[aS])) sh
theorem ajs{an:eo}{m:fl}{x y:Code}{l1 l2 e5 B':List (List Nat×List Nat)}{j0 j1:eG}(bp:dm P an nt m x l1=some (j0,l2))(au:dm P an nt m y e5=some (j1,B'))(q3:kt j0=true)(xC:kt j1=true)
  {je:Nat->ah} {r:Loop} (eh:r.state=.ready) (avE:r.pending=none) {W:World} {s:aU} (h:Still w0 G0 ρ0 a je r W G ρ) (hw:pP gl W G ρ s) {ps:List Nat} {vs:List Value} {xs:List ah}
  (jQ:∀p,p∈ps->p<a.tmps.size) (cg:nt<=a.tmps.size) (xD:ck W G ρ vs xs) {iA:Option aB->aU->Prop} {f n:Nat}
  (ax:rJ (bx P gl) (run (bx P gl) gl j0) (run (bx P gl) gl j1) ps ⟨je,λ_=>none,s⟩ xs s iA):
  RoundIn Fence.wide n P (w0.heap.size+1) f (nE a.tmps ps vs) x y W λe AS=>
   ∃c G' ρ' s',e=.returned (.bool (c:Option Code).isNone)/\(∀j,c=some j->(xB j).isSome=true)/\Still w0 G0 ρ0 a je {r with state:=if c.isNone then .ready else .done,pending:=c} AS G' ρ'/\pP gl AS G' ρ' s'/\
    da W G AS G'/\(∀b,b≠w0.heap.size+1->b<W.heap.size->G b=none->AS.heap[b]?=W.heap[b]?/\G' b=none)/\(∀i b:Nat,ρ[i]?=some b->ρ'[i]?=some b)/\iA (c.bind xB) s':=by
 have dz:=QP (h.rel hw) jQ xD;have p:bT 0 gl nt W G ρ (λ_=>none) {tmps:=nE a.tmps ps vs,defers:=[]} {aR:=yM je ps xs,bH:=λ_=>none,s:=s}:=⟨dz,.nil,by grind[QO]⟩;refine roundIn_of_wpIn trivial ?_;obtain⟨_,ax⟩:=ax;refine aB2 (QJ x bp q3 p p.l3 ax) ?_;intro e bw kG pO;cases e with
 |normal=>
  obtain⟨bF,gV,k0,Jh,cI,q1,cE,ei,gF,jD⟩:=pO;have s1:=h.run ei (λi b hi=>gF i b (h.l3.pre i b hi));refine⟨_,run_beginRound s1.kF eh,?_⟩;have s2:=s1.put {r with state:=.busy};have g2:da W G (kG.putObj (w0.heap.size+1) (.loop {r with state:=.busy})) gV:=ei.keep.trans (sf s1.kF rfl);have eb:bT 0 gl nt (kG.putObj (w0.heap.size+1) (.loop {r with state:=.busy})) gV k0 Jh bw cI:=by
   refine⟨cE.putObj s1.kF rfl s1.xA,?_,bF⟩;obtain⟨hz,aj,aF,aZ⟩:=q1;refine⟨hz,aj,aF,λD cv=> ?_⟩;obtain⟨g1,g2,g3⟩:=aZ D cv;have cB:D≠w0.heap.size+1:=by intro e;subst e;rw[s1.kF]at g2;simp_all
   grind[World.putObj_heap_other]
  refine aB2 (QJ y au xC eb eb.l3 jD) ?_;have fin:∀(jump:Option Code) {xE:World} {fZ:bI} {fE:List Nat} {oQ:Nat->Option Nat} {a2:Act} {aP:ag},bS gl xE fZ fE oQ a2.tmps aP->Good (kG.putObj (w0.heap.size+1) (.loop {r with state:=.busy})) gV xE fZ->
    (∀i b:Nat,k0[i]?=some b->fE[i]?=some b)->∃AS,(Instr.endRound (w0.heap.size+1) jump).run P xE=.ok (.bool jump.isNone) AS/\
     Still w0 G0 ρ0 a je {r with state:=if jump.isNone then .ready else .done,pending:=jump} AS fZ fE/\pP gl AS fZ fE aP.s/\da W G AS fZ/\(∀b,b≠w0.heap.size+1->b<W.heap.size->G b=none->AS.heap[b]?=W.heap[b]?/\fZ b=none)/\(∀i b:Nat,ρ[i]?=some b->fE[i]?=some b):=by
   intro jump xE fZ fE oQ a2 aP t1 t2 t3;have kE:=s2.run t2 (λi b hi=>t3 i b (gF i b (h.l3.pre i b hi)));exact⟨_,run_endRound jump kE.kF,kE.put _,kE.QN t1.wd _,(g2.trans t2.keep).trans (sf kE.kF rfl),λb hd dY u4=>by
    grind[World.putObj_size,World.putObj_heap_other,Good.iB],λi b hi=>t3 i b (gF i b hi)⟩
  intro e a2 xE pO;cases e with
  |normal=>
   obtain⟨t2,fZ,fE,oQ,aP,t1,t3,t4,t5,t6⟩:=pO;obtain⟨AS,dv,k5,zF,zG,zH,zI⟩:=fin none t3 t4 t5;exact⟨_,AS,dv,none,fZ,fE,aP.s,rfl,λj aK=>axZ,k5,zF,zG,zH,zI,t6⟩
  |ret=>
   obtain⟨t2,fZ,fE,oQ,aP,t1,t3,t4,t5,t6⟩:=pO;obtain⟨AS,dv,k5,zF,zG,zH,zI⟩:=fin (some .ret) t3 t4 t5;exact⟨_,AS,dv,some .ret,fZ,fE,aP.s,rfl,λj aK=>by cases aK;rfl,k5,zF,zG,zH,zI,t6⟩
  |exit i=>
   obtain⟨t2,fZ,fE,oQ,aP,t1,t3,t4,t5,t6⟩:=pO;obtain⟨AS,dv,k5,zF,zG,zH,zI⟩:=fin (some (.exit i)) t3 t4 t5;exact⟨_,AS,dv,some (.exit i),fZ,fE,aP.s,rfl,λj aK=>by cases aK;rfl,k5,zF,zG,zH,zI,t6⟩
  |_=>exact pO.elim
 |exit i=>obtain⟨_,_,_,_,_,_,_,_,_,h⟩:=pO;exact h.elim
 |ret=>obtain⟨_,_,_,_,_,_,_,_,_,h⟩:=pO;exact h.elim
 |_=>exact pO.elim
end
end Go.aH
