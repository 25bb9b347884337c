/- Part of ranges_said. -/
import Derived.Test.YthffhbakgmemaaaGreatDoorM4
import Derived.OrdersIn
import Derived.Shelf.Strings.BuilderF
import Derived.Lib.Join
import Derived.Lib.ItoaNum
import Derived.Lib.AtoiAll
set_option linter.defProp false
set_option maxRecDepth 100000
set_option maxHeartbeats 8000000
set_option linter.unusedSimpArgs false
set_option linter.unusedVariables false
namespace Go.aH
variable {p:Prop}
section
variable {P:Program}{gl:Nat->List D}{n0 nt:Nat}{a:Act}{w w' w0:World}{G G' G0:bI}{ρ ρ' ρ0:List Nat}{lam lam':Nat->Option Nat}{st aT:ag}{o:Oper}{Q:Exit->Act->World->Prop}
variable {O:Option aB->World->bI->List Nat->Prop}{Y:iR Prop}{yi fV:Nat}
structure ua(O:Option aB->World->bI->List Nat->Prop)(ρ0:List Nat)(fV:Nat):Prop where
 run:∀p W G ρ AS G' ρ',O p W G ρ->Good W G AS G'->(∀i b:Nat,ρ0[i]?=some b->ρ'[i]?=some b)->O p AS G' ρ'
 pre:∀p W G ρ,O p W G ρ->∀i b:Nat,ρ0[i]?=some b->ρ[i]?=some b
 kF:∀p W G ρ,O p W G ρ->∃r,W.heap[fV]?=some (.loop r)
def Ca(P:Program)(gl:Nat->List D)(O:Option aB->World->bI->List Nat->Prop)(Y:iR Prop)(fV m:Nat):Prop:=
 ∀(W:World) (G:bI) (ρ:List Nat) (s:aU) (vs:List Value) (xs:List ah) (iA:Option aB->aU->Prop),O none W G ρ->pP gl W G ρ s->ck W G ρ vs xs->Y xs s iA->
  YieldAt Fence.wide m P fV ⟨vs⟩ W λe AS=>∃(p':Option aB) (G':bI) (ρ':List Nat) (s':aU),e=.returned (.bool p'.isNone)/\O p' AS G' ρ'/\pP gl AS G' ρ' s'/\da W G AS G'/\
   (∀b,b≠fV->b<W.heap.size->G b=none->AS.heap[b]?=W.heap[b]?/\G' b=none)/\(∀i b:Nat,ρ[i]?=some b->ρ'[i]?=some b)/\iA p' s'
def q4(n0:Nat)(gl:Nat->List D)(nt:Nat)(O:Option aB->World->bI->List Nat->Prop)(K:ag->Option aB->Prop)(a':Act)(w':World):Prop:=
 nt<=a'.tmps.size/\∃G' ρ' lam' aT p',Marks n0 w' G' a'.defers/\bS gl w' G' ρ' lam' a'.tmps aT/\O p' w' G' ρ'/\K aT p'
def ub(n0:Nat)(gl:Nat->List D)(nt:Nat)(O:Option aB->World->bI->List Nat->Prop)(K:aB->ag->Option aB->Prop):Exit->Act->World->Prop
 |.normal,a',w'=>q4 n0 gl nt O (K .normal) a' w'
 |.exit i,a',w'=>q4 n0 gl nt O (K (.exit i)) a' w'
 |.ret,a',w'=>q4 n0 gl nt O (K .ret) a' w'
 |_,_,_=>False
theorem zJ{pp:Option aB}{K:ag->Option aB->Prop}{a':Act}(aq:ua O ρ0 fV)(bd:O pp w G ρ)(h:cJ n0 gl nt w G ρ (λst=>K st pp) a' w'):q4 n0 gl nt O K a' w':=by
 obtain⟨aF,G',ρ',lam',aT,aj,aZ,bP,cK,dO⟩:=h;exact⟨aF,G',ρ',lam',aT,pp,aj,aZ,aq.run _ _ _ _ _ _ _ bd bP (λi b hi=>cK i b (aq.pre _ _ _ _ bd i b hi)),dO⟩
theorem QQ{n:Nat}{next:Act->World->Prop}(h:o.wp P a w next Q):o.wpIn Fence.wide n P a w next Q:=by
 refine⟨λ_ _=>trivial,?_⟩;rw[show Fence.wide.round=none from rfl,Oper.semAt_none];unfold Oper.wp at h;generalize (execOp a.eval o).run P w=r at h;cases r with
 |ok vw w'=>
  cases vw with
  |value v=>exact h
  |skip=>exact h
  |defer d=>exact h
  |enter f args=>exact⟨λh=>by grind[Fence.wide],callsIn_wide.2 h⟩
  |row r args=>
   refine⟨λh=>by grind[Fence.wide],?_⟩;intro c cs _;obtain⟨v,bW,h1,sh⟩:=h c cs;exact⟨v,bW,h1,stepsIn_wide.2 sh⟩
  |_=>exact h.elim
 |halt e w'=>cases e<;>first|exact h|exact h.elim
theorem Marks.ajt{l:List Deferred}(h:Marks n0 w G l)(ax:∃r,w.heap[fV]?=some (.loop r))(hi:∀b,b≠fV->b<w.heap.size->G b=none->w'.heap[b]?=w.heap[b]?/\G' b=none):Marks n0 w' G' l:=by
 obtain⟨hz,h1,sh,av⟩:=h;refine⟨hz,h1,sh,λD cv=> ?_⟩;grind
def zK:I->Bool
 |.dH .. =>false
 |_=>true
theorem J2{α:Type}{x:Option α}{f:α->I}{i:I}(bh:∀a,zK (f a)=true)(h:x.map f=some i):zK i=true:=by
 obtain⟨a,_,rfl⟩:=aA0.1 h;simp_all
theorem avF{α:Type}{x:Option α}{f:α->Option I}{i:I}(bh:∀a,f a=some i->zK i=true)(h:x.bind f=some i):zK i=true:=by
 obtain⟨a,_,h⟩:=aAq.1 h;grind
theorem aju{an:eo}{m:fl}{d:Option Nat}{f:aH.O}{args:List aH.O}(h:jh P an m o=some (.dH d f args)):
  ∃c fo t,o.op=.call c/\o.dst=d/\c.callee=.value fo/\bO P t fo=some f/\h4 (λx y=>∃t,bO P t x=some y) c.args.toList args:=by
 have key:zK (.dH d f args)=false:=rfl;by_cases hv:∃c fo,o.op=.call c/\c.callee=.value fo
 .obtain⟨c,fo,bz,az⟩:=hv;unfold jh at h;rw[bz]at h;simp only[az,aA8,aAq]at h;obtain⟨ys,wa,h⟩:=h;have wa:=IZ (f:=λ_ i=>c.argTypes.getD i 0) wa;split at h
  .split at h
   .grind
   .obtain⟨rfl,rfl,rfl⟩:=h;exact⟨c,_,0,bz,rfl,az,rfl,wa⟩
  grind[Option.bind_eq_some_iff]
 .have:zK (.dH d f args)=true:=by
   unfold jh at h;split at h;case h_25=>
    rename_i c bz;split at h
    .simp_all
    all_goals
     repeat' first
      |(cases h)
      |(cases h)
      |(refine J2 (λ_=> ?_) h<;>rfl)
      |(replace h:=aAq.1 h;obtain⟨_,_,h⟩:=h)
      |(unfold yO at h)
      |(split at h)
      |(dsimp only at h;split at h)
   all_goals
    repeat' first
     |(cases h;done)
     |(cases h;rfl)
     |(exact J2 (λ_=>rfl) h)
     |(refine J2 (λ_=> ?_) h;split<;>rfl)
     |(replace h:=aAq.1 h;obtain⟨_,_,h⟩:=h)
     |(unfold yO at h)
     |(split at h)
     |(dsimp only at h;split at h)
  simp_all
theorem J3{R:Type}{A:mB R}{Y:iR R}{i:I}{st:ag}{pp:Option aB}{K:ag->Option aB->R}:
  (∃j d f args,i=.dH d f args/\aL gl st f=.fY j/\mD A gl Y yi i st pp K=A.guard (Nat.beq j yi) (A6 A gl Y d args st pp K))\/mD A gl Y yi i st pp K=step A gl i st λst=>K st pp:=by
 cases i with
 |dH d f args=>
  cases hv:aL gl st f with
  |fY j=>exact .inl ⟨j,d,f,args,rfl,hv,by simp_all[mD,A7]⟩
  |_=>simp_all[mD,A7]
 |_=>exact .inr rfl
theorem pP.ajv{AS:World}{s':aU}(h:bS gl w G ρ lam a.tmps st)(hw:pP gl AS G' ρ' s')(aq:da w G AS G')(cN:∀i b:Nat,ρ[i]?=some b->ρ'[i]?=some b):
  bS gl AS G' ρ' (λ_=>none) a.tmps {st.lr with s:=s'} where
 aR t:=.cp ((QK (h.aR t)).keep aq λi b=>cN i (b+1))
 bH t cs az:=by grind[ag.lr]
 nb _ _:=rfl
 ob:=hw.ob
 eU:=hw.eU
 lt:=hw.lt
theorem ajw{n:Nat}{an:eo}{m:fl}{d:Option Nat}{f:aH.O}{args:List aH.O}{pp:Option aB}{K:ag->Option aB->Prop}(hl:Ca P gl O Y fV (n-1))(aq:ua O ρ0 fV)(sq:ρ0[yi]?=some (fV+1))(p:bT n0 gl nt w G ρ lam a st)
  (bd:O pp w G ρ) (h:jh P an m o=some (.dH d f args)) (aY:kr nt o=true) (bh:aL gl st f=.fY yi) (hs:A6 (bx P gl) gl Y d args st pp K):o.wpIn Fence.wide n P a w (q4 n0 gl nt O K) Q:=by
 obtain⟨c,fo,t,bz,BS,az,nr,ak⟩:=aju h;obtain⟨aC,hs⟩:=hs;simp only[aAc]at aC;obtain rfl:pp=none:=axY;obtain⟨L,ew⟩:=dQ nr p.rel;rw[bh]at ew;have hA:=ew;have Fl:a.eval fo=.func (.yield fV) #[] #[]:=by
  generalize a.eval fo=v at hA;cases hA with
  |fY _ l aI=>
   have:=aq.pre _ _ _ _ bd yi _ sq;simp_all
 have wX:=El p ak aC.2;obtain⟨fn,tmps,assign,body,dv,tO⟩:=hl w G ρ st.s _ _ _ bd p.rel.wd wX hs;have ax:(execOp a.eval o).run P w=.ok (.round fV fn tmps assign body) w:=by
  have e:(#[]:Array Value)++(⟨c.args.toList.map a.eval⟩:Array Value)++ #[]=⟨c.args.toList.map a.eval⟩:=axX;simp[execOp,bz,aAm,resolve,az,Fl,Deferred.ofValue,aAv,aAo,invoke];rw[<-dv];congr 2;grind
 refine⟨λ_ _=>trivial,?_⟩;rw[show Fence.wide.round=none from rfl,Oper.semAt_none,ax,Oper.uponIn_round];refine⟨λh=>by grind[Fence.wide],tO.mono ?_⟩;rintro e AS ⟨p',G',ρ',s',rfl,h1,sh,av,aW,bL,cW⟩;have dz:=pP.ajv p.rel sh av bL;have hm:=p.eO.ajt (aq.kF _ _ _ _ bd) aW;rw[BS];cases d with
 |none=>exact⟨p.sz,G',ρ',_,_,p',hm,dz,h1,cW⟩
 |some d=>
  have bu:d<a.tmps.size:=by
   unfold kr at aY;rw[BS]at aY;exact aAI (by grind[Nat.blt_eq]) p.sz
  exact⟨ax5,G',ρ',_,_,p',by grind[put_defers],dz.set bu (.cp (.d _ _ (.bool _))),h1,cW⟩
theorem ajx{n:Nat}{an:eo}{m:fl}{i:I}{pp:Option aB}{K:ag->Option aB->Prop}(hl:Ca P gl O Y fV (n-1))(aq:ua O ρ0 fV)(sq:ρ0[yi]?=some (fV+1))(p:bT n0 gl nt w G ρ lam a st)
  (bd:O pp w G ρ) (h:jh P an m o=some i) (aY:kr nt o=true) (hs:mD (bx P gl) gl Y yi i st pp K):o.wpIn Fence.wide n P a w (q4 n0 gl nt O K) Q:=by
 rcases J3 (gl:=gl) (yi:=yi) (A:=bx P gl) (Y:=Y) (i:=i) (st:=st) (pp:=pp) (K:=K)with⟨j,d,f,args,rfl,bh,he⟩|he
 .rw[he]at hs;obtain⟨aK,hs⟩:=hs;grind[Nat.eq_of_beq_eq_true,ajw]
 .rw[he]at hs;exact QQ (Oper.wp_mono (λa' w' h=>zJ aq bd h) (I0 p h aY hs))
theorem bT.Fm{pp:Option aB}{K:ag->Option aB->Prop}(p:bT n0 gl nt w G ρ lam a st)(bd:O pp w G ρ)(h:K st pp):q4 n0 gl nt O K a w:=
 ⟨p.sz,G,ρ,lam,st,pp,p.eO,p.rel,bd,h⟩
theorem avG{R:Type}(A:mB R)(gl:Nat->List D)(Y:iR R)(yi:Nat)(g:cf)(l:List cf)(st:ag)(pp:Option aB)(K:ag->Option aB->R):
  h3 A gl Y yi (g::l) st pp K=h3 A gl Y yi [g] st pp λst pp=>h3 A gl Y yi l st pp K:=by
 obtain⟨g,i⟩:=g;cases g with
 |none=>rfl
 |some q=>simp_all[h3]
theorem J4{n k:Nat}{ops:Array Oper}{rest:List Nat}(bd:ops[k]?=some o)(aC:o.guard=none)(h:o.wp P a w (λa' w'=>wpOpsIn Fence.wide n P ops Q rest a' w') Q):
  wpOpsIn Fence.wide n P ops Q (k::rest) a w:=by
 simp_all[wpOpsIn,Region.wanted,QQ]
theorem J5{n:Nat}{ops:Array Oper}{an:eo}{K:ag->Option aB->Prop}(hl:Ca P gl O Y fV (n-1))(aq:ua O ρ0 fV)(sq:ρ0[yi]?=some (fV+1)):
  ∀(fuel:Nat) {l:List Oper} {k:Nat} {m:fl} {is:List cf} {w:World} {G:bI} {ρ:List Nat} {lam:Nat->Option Nat} {a:Act} {st:ag} {pp:Option aB},l.length<=fuel->
  (∀j,ops[k+j]?=l[j]?)->hH P an nt ops m l=some is->bT n0 gl nt w G ρ lam a st->O pp w G ρ->h3 (bx P gl) gl Y yi is st pp K->
  (∀a' w',q4 n0 gl nt O K a' w'->Q .normal a' w')->wpOpsIn Fence.wide n P ops Q (List.range' k l.length) a w
 |_,[],k,m,is,w,G,ρ,lam,a,st,pp,_,_,az,p,bd,hs,aV=>by
  simp[hH,aAe]at az;subst az;exact aV _ _ (p.Fm bd hs)
 |0,o::l,k,m,is,w,G,ρ,lam,a,st,pp,zo,_,_,_,_,_,_=>axY
 |fuel+1,o::l,k,m,is,w,G,ρ,lam,a,st,pp,zo,aI,az,p,bd,hs,aV=>by
  have bz:ops[k]?=some o:=by have:=aI 0;simp_all
  rcases vf az with⟨g,f',h1,av,rfl⟩|⟨cO,eH,bC,d,ins,e,f',rfl,ak,aY,he,av,rfl⟩
  .obtain⟨c1,c2,c3,c4⟩:=xl h1;obtain⟨ajp,i⟩:=g;rw[aAu,aBl];simp[wpOpsIn,bz];have next:∀a' w',q4 n0 gl nt O (λst pp=>h3 (bx P gl) gl Y yi f' st pp K) a' w'->wpOpsIn Fence.wide n P ops Q (List.range' (k+1) l.length) a' w':=by
    rintro a' w' ⟨aF,G',ρ',lam',aT,p',aj,aZ,bP,cK⟩;refine J5 hl aq sq fuel (l:=l) (k:=k+1) (m:=uY P m o) axY (λj=> ?_) av ⟨aZ,aj,aF⟩ bP cK aV;have:=aI (j+1);grind
   have mono:∀{K':ag->Option aB->Prop},(∀st pp,K' st pp->h3 (bx P gl) gl Y yi f' st pp K)->o.wpIn Fence.wide n P a w (q4 n0 gl nt O K') Q->o.wpIn Fence.wide n P a w (wpOpsIn Fence.wide n P ops Q (List.range' (k+1) l.length)) Q:=
    λao h=>Oper.wpIn_mono (λa' w' h=>next a' w' (by obtain⟨aF,G',ρ',lam',aT,p',aj,aZ,bP,cK⟩:=h;exact⟨aF,G',ρ',lam',aT,p',aj,aZ,bP,ao _ _ cK⟩)) h
   have J0:mD (bx P gl) gl Y yi i st pp (λst pp=>h3 (bx P gl) gl Y yi f' st pp K)->o.wpIn Fence.wide n P a w (wpOpsIn Fence.wide n P ops Q (List.range' (k+1) l.length)) Q:=by
    intro hs;rcases c1 with c1|rfl
    .exact mono (λ_ _ h=>h) (ajx hl aq sq p bd c1 c3 hs)
    .exact hs.elim
   have skip:∀{K':ag->Option aB->Prop},(∀st pp,K' st pp->h3 (bx P gl) gl Y yi f' st pp K)->K' (st.dI i.dst (.tuple [])) pp->wpOpsIn Fence.wide n P ops Q (List.range' (k+1) l.length) (a.put o.dst undef) w:=
    λao h=>next _ _ (zJ aq bd (BR p c4.symm c3 (ao _ _ h)))
   rcases I' c2 p.rel.aR with⟨rfl,hw⟩|⟨s,want,rfl,⟨b,au,hw⟩|⟨au,hw⟩|⟨g1,g2⟩⟩
   .rw[hw];exact J0 hs
   .rw[hw];simp only[h3,au]at hs;cases az:cond want b (!b)with
    |true=>simp_all
    |false=>rw[az]at hs;exact⟨λ_ _=>trivial,skip (K':=λst pp=>h3 (bx P gl) gl Y yi f' st pp K) (λ_ _ h=>h) hs⟩
   .rw[hw];simp[h3,au]at hs;exact⟨λ_ _=>trivial,skip (K':=λst pp=>h3 (bx P gl) gl Y yi f' st pp K) (λ_ _ h=>h) hs⟩
   .exfalso;simp[h3]at hs;first
     |exact hs
     |(split at hs
       .rename_i b au;exact g1 b au
       .rename_i au;exact g2 au
       .exact hs)
  .obtain⟨s,z,i,y,sz,b1,rfl,iW⟩:=vb ak;have kZ:ops[k+1]?=some cO:=axY;have qR:ops[k+2]?=some eH:=axY;have gq:step (bx P gl) gl (.kO d s z i y sz b1) st λcI=>h3 (bx P gl) gl Y yi f' ((cI.dI (some e) .undef).dI none .undef) pp K:=hs;obtain⟨v1,v2,w1,b,pos,us,xo,cr,G',n',c1,E,fz,r0,bN,b5,dq,n7,vg,gf,ij,qS,pJ,BV⟩:=EM p iW gq;obtain⟨n4,gG,ic,vd⟩:=ES iW r0;obtain⟨t,u,b2,bt,sc,x,t3,q1,bF,cE,ei,gF,jD,oP,pI,qN,_⟩:=iW.ex;have lA:=aAI aY p.sz;have se:=aAI he p.sz;rw[aAu,aAu,aAu,aBl,aBl,aBl];refine J4 bz cE (gb bN ?_);rw[bF];refine J4 kZ jD (gb (b5 _ _ ?_ ?_) ?_)
   .rw[qQ lA,aAD rfl]
   .rw[qQ lA,aAG (aAt gG)]
   rw[gF];refine J4 qR qN (u1 (dq _ _ ?_ ?_ n7) ?_)
   .rw[qQ ayP,aAD rfl]
   .rw[eval_put (λq aS=>(n4 q aS).1),eval_put (λq aS=>(n4 q aS).2)]
   rw[pI];have dz:=Jc (v2:=v2) ij pJ lA se;refine J5 hl aq sq fuel (l:=bC) (k:=k+1+1+1) (m:=m) axZ (λj=> ?_) av ⟨dz,p.eO.good qS,azs⟩ (aq.run _ _ _ _ _ _ _ bd qS (aq.pre _ _ _ _ bd)) BV aV;have:=aI (j+3);grind
theorem ajy{l bC:List Nat}(h:∀i b:Nat,l[i]?=some b->bC[i]?=some b):l.length<=bC.length:=by
 rcases aCC l.length with wb|wb
 .omega
 .have avH:l[l.length-1]?=some (l[l.length-1]' axW):=aAj axW;grind
theorem ua.forget(aq:ua O ρ0 fV){p:Option aB}{n:Nat}(bd:O p w G ρ)(aA:∀b L n,G b=some (L,n)->b<w.heap.size)(ay:ρ0.length<=n){fE:List Nat}(h:fE=ρ\/fE=ρ.take n):O p w G fE:=by
 refine aq.run _ _ _ _ _ _ _ bd (Good.refl aA) λi b hi=> ?_;have h1:=aq.pre _ _ _ _ bd i b hi;grind
theorem ajz{K:aB->ag->Option aB->Prop}(aq:ua O ρ0 fV){ts bs:List Nat}{I:Nat->ag->Prop}{n N:Nat}(b3:ρ0.length<=N){e:Exit}{a':Act}{w':World}
  (h:ub n0 gl nt O (λx st p=>match x with|.normal=>(bx P gl).guard p.isNone (aH.forget (bx P gl) N ts bs st (λaT=>∃m,m<n/\I m aT))|x=>K x st p) e a' w'):
  Exit.then (λa' w'=>∃m,m<n/\∃G ρ lam st,bT n0 gl nt w' G ρ lam a' st/\O none w' G ρ/\I m st) (ub n0 gl nt O K) e a' w':=by
 cases e with
 |normal=>
  obtain⟨aF,G',ρ',lam',aT,p',aj,aZ,bP,hp,lW,m,hm,dr⟩:=h;have J6:p'=none:=axY;subst J6;have p:bT n0 gl nt w' G' ρ' lam' a' aT:=⟨aZ,aj,aF⟩;obtain⟨fE,oQ,eb,cN⟩:=p.forget (n:=N) lW;exact⟨m,hm,G',fE,oQ,_,eb,aq.forget bP aZ.lt b3 cN,dr⟩
 |exit i=>exact h
 |ret=>exact h
 |_=>exact h.elim
theorem ajA{n:Nat}{K:aB->ag->Option aB->Prop}{b:eG}{y:Code}(wa:∀{w:World} {G:bI} {ρ:List Nat} {lam:Nat->Option Nat} {a:Act} {st:ag} {pp:Option aB},bT n0 gl nt w G ρ lam a st->O pp w G ρ->
   hk (bx P gl) gl Y yi b st pp K->y.wpIn Fence.wide n P (ub n0 gl nt O K) a w) {e:Exit} {a':Act} {w':World}
  (h:ub n0 gl nt O (λx st p=>match x with|.normal=>hk (bx P gl) gl Y yi b st p K|x=>K x st p) e a' w'):
  Exit.then (y.wpIn Fence.wide n P (ub n0 gl nt O K)) (ub n0 gl nt O K) e a' w':=by
 cases e with
 |normal=>
  obtain⟨aF,G',ρ',lam',aT,p',aj,aZ,bP,cK⟩:=h;exact wa ⟨aZ,aj,aF⟩ bP cK
 |exit i=>exact h
 |ret=>exact h
 |_=>exact h.elim
theorem ajB{K:aB->ag->Option aB->Prop}{i:Nat}{e:Exit}{a':Act}{w':World}
  (h:ub n0 gl nt O (λx st p=>match x with|.exit j=>cond (Nat.beq j i) (K .normal st p) (K (.exit j) st p)|x=>K x st p) e a' w'):Exit.inBlock i (ub n0 gl nt O K) e a' w':=by
 cases e with
 |normal=>exact h
 |ret=>exact h
 |exit j=>
  obtain⟨aF,G',ρ',lam',aT,p',aj,aZ,bP,dO⟩:=h;simp[Exit.inBlock];by_cases aK:j=i
  .subst aK;simp at dO;simp;exact⟨aF,G',ρ',lam',aT,p',aj,aZ,bP,dO⟩
  .have:Nat.beq j i=false:=by simp_all[aBH]
   simp[this,cond]at dO;simp[aK,aAC];exact⟨aF,G',ρ',lam',aT,p',aj,aZ,bP,dO⟩
 |_=>exact h.elim
theorem ajC(vh:xm P gl){n:Nat}{an:eo}{m:fl}(hl:Ca P gl O Y fV (n-1))(aq:ua O ρ0 fV)(sq:ρ0[yi]?=some (fV+1)):
  ∀(c:Code) {l bC:List (List Nat×List Nat)} {vc:eG} {w:World} {G:bI} {ρ:List Nat} {lam:Nat->Option Nat} {a:Act} {st:ag} {pp:Option aB} {K:aB->ag->Option aB->Prop},
  dm P an nt m c l=some (vc,bC)->bT n0 gl nt w G ρ lam a st->O pp w G ρ->hk (bx P gl) gl Y yi vc st pp K->c.wpIn Fence.wide n P (ub n0 gl nt O K) a w:=by
 intro c;induction c with
 |skip=>
  intro l bC vc w G ρ lam a st pp K az p bd ax;obtain⟨rfl,rfl⟩:=az;exact wpIn_skip (p.Fm bd ax)
 |region id ops BW=>
  intro l bC vc w G ρ lam a st pp K az p bd ax;simp[dm]at az;split at az
  .rename_i is mM;cases BW with
   |true=>
    simp at az;split at az
    .rename_i dy fW;obtain⟨rfl,rfl⟩:=az;refine aCb.2 (aBL (vh (K:=λe st=>K e st pp) mM fW p ax) λe a' w' h=> ?_);cases e with
     |normal=>exact zJ (K:=K .normal) aq bd h
     |exit i=>exact zJ (K:=K (.exit i)) aq bd h
     |ret=>exact zJ (K:=K .ret) aq bd h
     |_=>exact h.elim
    .split at az
     .rename_i c Jg;obtain⟨rfl,rfl⟩:=az;obtain⟨d,e,z,bJ,a6,_,c1,c2,c3,rfl⟩:=Je Jg;obtain⟨k1,k2⟩:=ahg ax;exact aCb.2 (PH mM c1 c2 c3 p ⟨Good.refl p.rel.lt,λ_ _ h=>h⟩ k1 k2 λa' w' h=>zJ aq bd h)
     .obtain⟨rfl,rfl⟩:=az;exact ax.elim
   |false=>
    obtain⟨rfl,rfl⟩:=az;refine wpIn_region ?_;have:List.range ops.size=List.range' 0 ops.toList.length:=azt;rw[this];exact J5 hl aq sq _ (aAd _) (λj=>axX) mM p bd ax λa' w' h=>h
  simp_all
 |seq x y tM tN=>
  intro l bC vc w G ρ lam a st pp K az p bd ax;simp[dm]at az;split at az
  .rename_i vx l1 ak;split at az
   .rename_i BX l2 wa;simp at az;obtain⟨rfl,rfl⟩:=az;refine wpIn_seq (aB2 (tM ak p bd ax) λe a w h=> ?_);exact ajA (λp bd ax=>tN wa p bd ax) h
   simp_all
  simp_all
 |cond c x y tM tN=>
  intro l bC vc w G ρ lam a st pp K az p bd ax;simp[dm]at az;split at az
  .rename_i vx co l1 EP ak;split at az
   .rename_i BX l2 wa;simp[aAe,aAJ]at az;obtain⟨rfl,rfl⟩:=az;simp[hk]at ax;obtain⟨L,ew⟩:=dQ EP p.rel;split at ax
    .grind[wpIn_cond_true,wpIn_cond_false,di.bool]
    .exact ax.elim
   simp_all
  simp_all
 |block i b ih=>
  intro l bC vc w G ρ lam a st pp K az p bd ax;simp[dm]at az;split at az
  .rename_i j1 l1 au;simp[aAe,aAJ]at az;obtain⟨rfl,rfl⟩:=az;exact wpIn_block (aB2 (ih au p bd ax) λe a w h=>ajB h)
  simp_all
 |loop b ih=>
  intro l bC vc w G ρ lam a st pp K az p bd ax;cases l with
  |nil=>grind[dm]
  |cons q l=>
   obtain⟨ts,bs⟩:=q;simp[dm]at az;split at az
   .rename_i j1 l1 au;simp only[aAe,aAJ]at az;obtain⟨rfl,rfl⟩:=az;simp only[hk]at ax;obtain⟨hp,lW,I,n,wb,tO⟩:=ax;have J6:pp=none:=axY;subst J6;obtain⟨fE,oQ,eb,cN⟩:=p.forget (n:=st.s.length) lW;have hlen:∀{w:World} {G:bI} {ρ:List Nat} {lam:Nat->Option Nat} {a:Act} {st:ag},bT n0 gl nt w G ρ lam a st->O none w G ρ->ρ0.length<=st.s.length:=λp bd=>by
     rw[<-p.rel.ob.1];exact ajy (aq.pre _ _ _ _ bd)
    refine aCb.2 (wp_loop_ghost (λn a w=>∃G ρ lam st,bT n0 gl nt w G ρ lam a st/\O none w G ρ/\I n st) n ⟨G,fE,oQ,_,eb,aq.forget bd p.rel.lt (hlen p bd) cN,wb⟩ ?_);rintro gG bw w1 ⟨gV,k0,Jh,cI,AN,f1,dr⟩;refine aBL (aCb.1 (ih au AN f1 (tO gG cI dr))) λe a' w' h=> ?_;exact ajz aq (hlen AN f1) h
   simp_all
 |exit i=>
  intro l bC vc w G ρ lam a st pp K az p bd ax;simp only[dm,aAe,aAJ]at az;obtain⟨rfl,rfl⟩:=az;exact wpIn_exit (p.Fm bd ax)
 |ret=>
  intro l bC vc w G ρ lam a st pp K az p bd ax;simp only[dm,aAe,aAJ]at az;obtain⟨rfl,rfl⟩:=az;exact wpIn_ret (p.Fm bd ax)
 |rangeFunc g ps x y _ _=>
  intro l bC vc w G ρ lam a st pp K az p bd ax;simp only[dm]at az;split at az
  .simp only[aCD,aAe,aAJ]at az;obtain⟨_,rfl,_⟩:=az;exact ax.elim
  simp_all
 |scope _=>grind[dm]
 |label _=>grind[dm]
 |goto _=>grind[dm]
 |refuse _=>
  intro l bC vc w G ρ lam a st pp K az p bd ax;simp only[dm,aAe,aAJ]at az;obtain⟨rfl,rfl⟩:=az;exact ax.elim
end
section
variable {P:Program}{gl:Nat->List D}{n0 nt:Nat}{a:Act}{w w' w0:World}{G G' G0:bI}{ρ ρ' ρ0:List Nat}{lam lam':Nat->Option Nat}{st aT:ag}{o:Oper}{Q:Exit->Act->World->Prop}
def J7(r0:Loop)(p:Option aB)(r:Loop):Prop:=
 ∃c:Option Code,r={r0 with state:=if c.isNone then .ready else .done,pending:=c}/\(∀j,c=some j->(xB j).isSome=true)/\p=c.bind xB
theorem J7.none{r0 r:Loop}(h1:r0.state=.ready)(sh:r0.pending=none)(h:J7 r0 none r):r=r0:=by
 obtain⟨c,rfl,aK,hp⟩:=h;cases c with
 |none=>cases r0;subst h1 sh;rfl
 |some j=>
  have:=aK j rfl;simp at hp;rw[<-hp]at this;simp at this
def Kept(w0:World)(G0:bI)(ρ0:List Nat)(a:Act)(je:Nat->ah)(r0:Loop)(p:Option aB)(W:World)(G:bI)(ρ:List Nat):Prop:=
 (∃r,J7 r0 p r/\Still w0 G0 ρ0 a je r W G ρ)/\∀i b:Nat,(ρ0++[w0.heap.size+1+1])[i]?=some b->ρ[i]?=some b
theorem ajD{je:Nat->ah}{r0:Loop}:ua (Kept w0 G0 ρ0 a je r0) (ρ0++[w0.heap.size+1+1]) (w0.heap.size+1) where
 run p W G ρ AS G' ρ' h aC hp:=by
  obtain⟨⟨r,h1,sh⟩,_⟩:=h;exact⟨⟨r,h1,sh.run aC λi b hi=>hp i b (iE i _ hi)⟩,hp⟩
 pre p W G ρ h:=h.2
 kF p W G ρ h:=by obtain⟨⟨r,h1,sh⟩,_⟩:=h;exact⟨r,sh.kF⟩
theorem ajE(ps:List Nat)(vs:List Value)(tmps:Array Value):
  (((⟨ps⟩:Array Tmp).zip (⟨vs⟩:Array Value)).foldl (λtmps (x:Tmp×Value)=>match x with|(t,a)=>tmps.setIfInBounds t a) tmps)=nE tmps ps vs:=ajr ps vs tmps
theorem ajF{an:eo}{m:fl}{x y:Code}{l1 l2 e5 B':List (List Nat×List Nat)}{j0 j1:eG}(bp:dm P an nt m x l1=some (j0,l2))(au:dm P an nt m y e5=some (j1,B'))(q3:kt j0=true)(xC:kt j1=true)
  {r0:Loop} {st0:ag} (avI:st0.bH=λ_=>none) (eh:r0.state=.ready) (Fo:r0.pending=none) (aE:r0.tmps=a.tmps) {ps:List Nat} (ajG:r0.params=⟨ps⟩) (ak:r0.assign=x) (wa:r0.body=y) (jQ:∀p,p∈ps->p<a.tmps.size) (cg:nt<=a.tmps.size) (n:Nat):
  Ca P gl (Kept w0 G0 ρ0 a st0.aR r0) (rJ (bx P gl) (run (bx P gl) gl j0) (run (bx P gl) gl j1) ps st0) (w0.heap.size+1) n:=by
 intro W G ρ s vs xs iA aq hw dz hl;obtain⟨⟨r,ax,QR⟩,u'⟩:=aq;obtain rfl:=ax.none eh Fo;have hlen:xs.length=ps.length:=by
  have:=hl.1;simp_all
 have ag7:=dz.length.trans hlen;refine⟨r.fn,_,r.assign,r.body,run_yield QR.kF axY,?_⟩;have ajH:rJ (bx P gl) (run (bx P gl) gl j0) (run (bx P gl) gl j1) ps ⟨st0.aR,λ_=>none,s⟩ xs s iA:=by
  grind[rJ]
 have:=ajs (n:=n) (f:=r.fn) bp au q3 xC eh Fo QR hw jQ cg dz ajH;rw[ajG,aE,ak,wa,ajE];refine this.mono ?_;rintro e AS ⟨c,G',ρ',s',rfl,h1,sh,av,aW,bL,cW,hx⟩;refine⟨c.bind xB,G',ρ',s',?_,⟨⟨_,⟨c,rfl,h1,rfl⟩,sh⟩,λi b hi=>cW i b (u' i b hi)⟩,av,aW,bL,cW,hx⟩;cases c with
 |none=>rfl
 |some j=>
  have:=h1 j rfl;simp;cases aK:xB j with
  |none=>grind
  |some _=>rfl
theorem QS{je:Nat->ah}{r:Loop}{a0:Act}{fn:Func}{tmps:Array Value}{R:Ending->World->Prop}:∀(hz:List Nat) {w:World},bS gl w G ρ lam tmps st->Still w0 G0 ρ0 a0 je r w G ρ->Marks (w0.heap.size+2) w G (hz.map mark)->
  (∀w,bS gl w G ρ lam tmps st->Still w0 G0 ρ0 a0 je r w G ρ->∃v,(results fn tmps).run P w=.ok v w/\R (.returned v) w)->LeavesInM Fence.wide 0 P fn tmps R (hz.map mark) .returning w
 |[],w,p,g,_,h=>h w p g
 |D::hz,w,p,g,hm,h=>by
  obtain⟨h1,sh,av,aW,bL⟩:=hm.tail;refine⟨axX,.inl ⟨D,w.putObj D (.deferred none),rfl,run_takeDeferred av,?_⟩⟩;refine QS hz (p.putObj av rfl aW) ?_ ?_ h
  .exact⟨λt=>(g.aR t).keep (sf av rfl) λ_ _ h=>h,⟨g.l3.good.putObj av rfl axW,g.l3.pre⟩,(aCa axW).trans g.kF,g.xA,(aCa axW).trans g.q2,g.zE⟩
  obtain⟨xn,aj,aF,aZ⟩:=bL;refine⟨xn,aj,aF,λE fm=> ?_⟩;obtain⟨f1,f2,f3⟩:=aZ E fm;have cB:E≠D:=by
   intro e;have Ji:mark E∈hz.map mark:=axZ;obtain⟨x,ak,he⟩:=aAR.1 Ji;simp_all[mark]
  grind[World.putObj_heap_other]
theorem QT(vh:xm P gl){an:eo}{m:fl}{f:Operand}{ps:List Nat}{x y:Code}{l1 l2 e5 B':List (List Nat×List Nat)}{j0 j1:eG}{K:aB->ag->Prop}
  (bp:dm P an nt m x l1=some (j0,l2)) (au:dm P an nt m y e5=some (j1,B')) (q3:kt j0=true) (xC:kt j1=true)
  (jQ:∀p,p∈ps->p<a.tmps.size) (p:bT n0 gl nt w G ρ lam a st) (ay:n0<=w.heap.size) {g:Nat} {cs:List Value} {gI:List ah} (bh:a.eval f=.func (.func g) #[] ⟨cs⟩) (gU:ck w G ρ cs gI)
  (ax:pq (bx P gl) gl (run (bx P gl) gl j0) (run (bx P gl) gl j1) ps g gI st K):(Code.rangeFunc f ⟨ps⟩ x y).wp P (j9 n0 gl nt w G ρ K) a w:=by
 obtain⟨cM,⟨vy,avJ,wW,tm,zL⟩,Fp,ax⟩:=ax;have EF:gQ P g:=by
  unfold u0 at zL;simp[aA8,aAq]at zL;obtain⟨c,au,_⟩:=zL;exact⟨vy,wW,axY,tm⟩
 refine(aCb (n:=1)).1 (wpIn_rangeFunc λfn _=> ?_);obtain⟨r,j5⟩:∃r:Loop,r={state:=.ready,pending:=none,fn,tmps:=a.tmps,params:=⟨ps⟩,assign:=x,body:=y,defers:=w.heap.size}:=⟨_,rfl⟩;obtain⟨kG,Fq⟩:∃kG,kG=(w.alloc (.deferred (some []))).alloc (.loop r):=⟨_,rfl⟩;have QU:∀b L n,G b=some (L,n)->b<(w.alloc (.deferred (some []))).heap.size:=λb L n h=>by rw[World.size_alloc];have:=p.rel.lt b L n h;omega
 have k2:da w G kG G:=by rw[Fq];exact(J1 (w:=w) (G:=G) (.deferred (some []))).trans (J1 (w:=w.alloc (.deferred (some []))) (G:=G) (.loop r))
 have g1:Good w G kG G:=by rw[Fq];exact(QM (w:=w) (.deferred (some [])) p.rel.lt).trans (QM (w:=w.alloc (.deferred (some []))) (.loop r) QU)
 have s1:∀L,e4 L L w G kG G:=λL b n au=>by
  rw[Fq];exact⟨(QL (w:=w.alloc (.deferred (some []))) (.loop r) QU L b n au).1.trans (QL (w:=w) (.deferred (some [])) p.rel.lt L b n au).1,au⟩
 have avK:kG.heap.size=w.heap.size+2:=axY;have QV:∀b,w.heap.size<=b->G b=none:=by
  intro b au;cases aC:G b with
  |none=>rfl
  |some q=>exact absurd (p.rel.lt b q.1 q.2 aC) (aBv.2 au)
 have still:Still w G ρ a st.lr.aR r kG G ρ:=by
  refine⟨λt=>(QK (p.rel.aR t)).keep k2 λ_ _ h=>h,⟨g1,λ_ _ h=>h⟩,?_,QV _ axW,?_,QV _ (aAd _)⟩;all_goals grind[World.alloc_heap_new,RowKit.Below.heap_alloc]
 have EE:∀b L n,G b=some (L,n)->b<kG.heap.size:=λb L n h=>axZ;refine⟨w.heap.size+1,[mark w.heap.size],kG,{target:=.fn (.func g) ⟨cs⟩,args:= #[.func (.yield (w.heap.size+1)) #[] #[]]},kG,g,⟨.func (.yield (w.heap.size+1)) #[] #[]::cs⟩,kG,?_,?_,λ_ _=>trivial,?_,λh=>axX,?_⟩
 .rw[Fq,j5];exact run_enterLoop_outer _ _ _ _ _
 .simp[resolve,bh];simp[go_sem]
 .grind[invoke,Pf]
 ·
  unfold u0 at zL;simp only[aA8,aAq]at zL;obtain⟨c,dY,⟨vc,bC⟩,Cb,rs,kC,Fs⟩:=zL;simp at Fs;subst Fs;simp at Fp;subst Fp;refine callsIn_of_wp_marks (n:=0) wW dY trivial ?_;have ajI:ht kG G (ρ++[w.heap.size+1+1]) (st.s++[.dead]):=by
   have wb:=p.rel.ob.bR (w':=kG) (G':=G) k2 (λi=>s1 _) (λi j=>s1 _);refine⟨by simp[wb.1],λi b o au bd=> ?_⟩;rcases aA1 i st.s.length with hi|hi
   .rw[aAY hi]at bd;rw[aAY (by rw[wb.1];omega)]at au;exact(wb.2 i b o au bd).bR (da.refl _ _) (λi b h=>iE i _ h) (λ_ _ h=>⟨rfl,h⟩) (λ_ _ _ h=>⟨rfl,h⟩)
   .rw[aA7 hi]at bd;have:i-st.s.length=0:=axZ;rw[this]at bd;simp at bd;subst bd;trivial
  have hval:ck kG G (ρ++[w.heap.size+1+1]) (.func (.yield (w.heap.size+1)) #[] #[]::cs) (.fY st.s.length::gI):=by
   refine .cons _ _ _ _ (.fY _ _ ?_) (gU.keep k2 (λi b h=>iE i _ h));rw[<-p.rel.ob.1];simp
  have ajJ:bT (w.heap.size+2) gl vy.ntmps kG G (ρ++[w.heap.size+1+1]) (λ_=>none)
    {tmps:=(⟨.func (.yield (w.heap.size+1)) #[] #[]::cs⟩:Array Value)++Array.replicate (vy.ntmps-(⟨.func (.yield (w.heap.size+1)) #[] #[]::cs⟩:Array Value).size) undef,defers:=[]}
    {aR:=rI (.fY st.s.length::gI) 0,bH:=λ_=>none,s:=st.s++[.dead]}:=by
   refine⟨⟨?_,λt cs h=>axZ,λ_ _=>rfl,ajI,p.rel.eU.bR k2,EE⟩,.nil,?_⟩
   .intro t;have h1:=Jj (n:=0) (t:=t) hval (aAa _);have sh:(((⟨.func (.yield (w.heap.size+1)) #[] #[]::cs⟩:Array Value)++Array.replicate (vy.ntmps-(⟨.func (.yield (w.heap.size+1)) #[] #[]::cs⟩:Array Value).size) undef).getD t undef)=((Value.func (.yield (w.heap.size+1)) #[] #[]::cs)[t-0]?).getD undef:=by
     rw[aBd,Array.getElem?_append,aCG];grind
    grind[di.cp]
   grind
  have eA:Kept w G ρ a st.lr.aR r none kG G (ρ++[w.heap.size+1+1]):=by
   refine⟨⟨r,⟨none,axY,λj aK=>axY,rfl⟩,⟨still.aR,⟨still.l3.good,iE⟩,still.kF,still.xA,still.q2,still.zE⟩⟩,λ_ _ h=>h⟩
  have sq:(ρ++[w.heap.size+1+1])[st.s.length]?=some (w.heap.size+1+1):=ayp;have ajK:=ajF (w0:=w) (G0:=G) (ρ0:=ρ) (gl:=gl) (a:=a) bp au q3 xC (r0:=r) (st0:=st.lr) rfl axZ axZ axZ (ps:=ps) axZ axZ axZ jQ p.sz 0;refine aB2 (ajC (n:=0) vh ajK ajD sq c Cb ajJ eA ax) ?_;have fin:∀{e:Exit} {a':Act} {AS:World} (pp:Option aB->aB),(∀p,pp p=p.getD .normal)->q4 (w.heap.size+2) gl vy.ntmps (Kept w G ρ a st.lr.aR r) (λA8 p=>K (pp p) {st.lr with s:=A8.s}) a' AS->
    LeavesInM Fence.wide 0 P vy a'.tmps (rangePost Fence.wide 1 P (w.heap.size+1) (j9 n0 gl nt w G ρ K) {a with defers:=[mark w.heap.size]++a.defers}) a'.defers .returning AS:=by
   intro e a' AS pp BI h;obtain⟨bF,G',ρ',lam',aT,p',q1,cE,⟨⟨bN,rT,ei⟩,gF⟩,jD⟩:=h;obtain⟨hz,Jk,_,_⟩:=id q1;rw[Jk]at q1⊢;refine QS hz cE ei q1 λxE t3 t4=> ?_;refine⟨.tuple #[],?_,?_⟩
   .have aI:vy.results.toList=[]:=by
     unfold yR at kC;split at kC
     .simp_all
     .simp_all
     .have:=rY kC;generalize vy.results.toList=l at this;cases this;rfl
    grind[EU,Sem.run_pure,Result.andThen_ok]
   .obtain⟨c,EI,zl,zm⟩:=rT;have after:∀(J8:ag->Prop),J8 {st.lr with s:=aT.s}->cJ n0 gl nt w G ρ J8 {a with defers:=[mark w.heap.size]++a.defers} (xE.putObj (w.heap.size+1) (.loop {bN with state:=.exhausted,pending:=c})):=by
     intro J8 aq;have sh:=t4.put {bN with state:=.exhausted,pending:=c};have av:=t4.QN t3.wd {bN with state:=.exhausted,pending:=c};refine⟨p.sz,G',ρ',λ_=>none,_,?_,sh.rel av,sh.l3.good,sh.l3.pre,aq⟩;obtain⟨xn,d1,d2,d3⟩:=p.eO;refine⟨w.heap.size::xn,axZ,aCZ.2 ⟨λhm=> ?_,d2⟩,λD cv=> ?_⟩
     .grind
     .rcases aAs.1 cv with rfl|cv
      .exact⟨ay,sh.q2,sh.zE⟩
      .obtain⟨f1,f2,f3⟩:=d3 D cv;have aA:=(aAU.1 f2).1;obtain⟨i1,i2⟩:=sh.l3.good.iB D aA (.inl f3);simp_all
    rw[BI]at jD;have ajL:bN.state≠.busy:=axZ;have vz:=run_endLoop (P:=P) t4.kF ajL;have Fo:bN.pending=c:=axZ;rw[Fo]at vz;refine⟨c,_,vz,?_⟩;cases c with
    |none=>
     simp at zm;subst zm;exact after (K .normal) jD
    |some j=>
     simp[aCy]at zm;subst zm;have:=zl j rfl;cases j<;>simp[xB,Option.isSome_none,aA5,Option.isSome_some]at this
     .exact wpIn_exit (after _ jD)
     .exact wpIn_ret (after _ jD)
  intro e a' AS h;cases e with
  |normal=>exact fin (e:=.normal) (λp=>p.getD .normal) (λ_=>rfl) h
  |ret=>exact fin (e:=.ret) (λp=>p.getD .normal) (λ_=>rfl) h
  |exit i=>obtain⟨_,_,_,_,_,_,_,_,_,h⟩:=h;exact h.elim
  |_=>exact h.elim
theorem ajM(vh:xm P gl):Jf P gl:=by
 intro n0 nt an m f ps x y l bC vc w G ρ lam a st K az p ay ax;simp only[dm]at az;split at az
 .rename_i fo j0 l2 j1 e5 nr bp au;simp only[aCD,aAe,aAJ,aAc]at az;obtain⟨⟨⟨q3,xC⟩,jQ⟩,rfl,rfl⟩:=az;obtain⟨ps⟩:=ps;have ajN:∀p,p∈ps->p<a.tmps.size:=λq aS=>aAI axY p.sz;simp[run]at ax;obtain⟨L,ew⟩:=dQ nr p.rel;split at ax
  .rename_i g gI he;rw[he]at ew;have hA:=ew;generalize Fl:a.eval f=Ft at hA;cases hA with
   |func _ fp cs _ _ ajO avL=>
    cases ajO;grind[QT]
  .rename_i g he;rw[he]at ew;have hA:=ew;generalize Fl:a.eval f=Ft at hA;cases hA with
   |d _ _ h=>
    cases h;exact QT vh bp au q3 xC ajN p ay Fl .nil ax
  .exact ax.elim
 simp_all
end
def aCs:=@Nat.lt_succ_self
abbrev Out:=Option (ah×aU)
def vA:Nat->(ag->(ag->Out)->Out)->ag->Out
 |0,_,_=>none
 |n+1,F,st=>F st λaT=>vA n F aT
def sr:Nat->ah->ah->Bool
 |n+1,.tuple a,.tuple b=>Nat.beq a.length b.length&&(a.zip b).all λp=>sr n p.1 p.2
 |n+1,.agg a,.agg b=>Nat.beq a.length b.length&&(a.zip b).all λp=>sr n p.1 p.2
 |_,a,b=>DV a b
def zM:b9->b9->Bool
 |.box a,.box b=>Nat.beq a.length b.length&&(a.zip b).all λp=>sr depth p.1 p.2
 |.map a,.map b=>Nat.beq a.length b.length&&(a.zip b).all λp=>ko p.1.1 p.2.1&&sr depth p.1.2 p.2.2
 |.dead,.dead=>true
 |.hU t e b,.hU ek e' cj=>Nat.beq t ek&&Nat.beq e e'&&decide (b=cj)
 |.rE a,.rE b=>decide (a=b)
 |_,_=>false
def Cc(a b:ah×aU):Bool:=sr depth a.1 b.1&&Nat.beq a.2.length b.2.length&&(a.2.zip b.2).all λp=>zM p.1 p.2
theorem Cd{α:Type}{f:α->α->Bool}(bh:∀a b,f a b=true->a=b):∀{l m:List α},(Nat.beq l.length m.length&&(l.zip m).all λp=>f p.1 p.2)=true->l=m
 |[],[],_=>rfl
 |[],_::_,h=>by simp at h
 |_::_,[],h=>by simp at h
 |a::l,b::m,h=>by
  simp at h;rw[bh a b h.2.1,Cd bh (l:=l) (m:=m) axY]
theorem Ce:∀(n:Nat) (a b:ah),sr n a b=true->a=b
 |0,a,b,h=>Jp (by simp_all[sr])
 |n+1,a,b,h=>by
  cases a<;>cases b<;>simp only[sr]at h<;>first
   |exact congrArg _ (Cd (Ce n) h)
   |exact Jp h
theorem QW(a b:b9)(h:zM a b=true):a=b:=by
 unfold zM at h;split at h
 .rw[Cd (Ce depth) h]
 .refine congrArg _ (Cd (f:=λp q=>ko p.1 q.1&&sr depth p.2 q.2) (λp q hp=> ?_) h);simp at hp;exact Prod.ext (EZ hp.1) (Ce _ _ _ hp.2)
 all_goals simp_all
theorem ajP{a b:ah×aU}(h:Cc a b=true):a=b:=by
 unfold Cc at h;rw[Bool.and_assoc,aAc]at h;exact Prod.ext (Ce _ _ _ h.1) (Cd QW h.2)
def gg(tab:Nat->Option aX)(call:Nat->List ah->aU->Out)(fuel:Nat):mB Out where
 fail:=none
 guard b p:=cond b p none
 call f args s K:=match call f args s with
  |some (r,s')=>K r s'
  |none=>none
 fix F st:=vA fuel F st
 both p q:=match p,q with
  |some a,some b=>cond (Cc a b) (some a) none
  |_,_=>none
 iter g k:=match tab g with
  |some cM=>k cM
  |none=>none
def exec(tab:Nat->Option aX)(gl:Nat->List D)(fuel:Nat):Nat->Nat->List ah->aU->Out
 |0,_,_,_=>none
 |n+1,f,args,s=>match tab f with
  |some cM=>lS (gg tab (exec tab gl fuel n) fuel) gl cM args s λr s'=>some (r,s')
  |none=>none
section
variable {P:Program}{gl:Nat->List D}{tab:Nat->Option aX}{call:Nat->List ah->aU->Out}{fuel:Nat}{x:ah×aU}
theorem a7.fh{f:Nat}{cM:aX}{args:List ah}{s s':aU}{r:ah}(h:a7 P f cM)(ax:lS (bx P gl) gl cM args s λfN xp=>fN=r/\xp=s'):bG P gl f args s r s':=by
 obtain⟨fn,an,h1,sh,av⟩:=h;grind[ahp,ajn,ajM]
theorem a7.of{f:Nat}{cM:aX}(an:eo)(h1:(P.funcs[f]?).map (λfn=>fn.name== "runtime.NumGoroutine")=some false)(sh:(P.funcs[f]?).bind (u0 P an)=some cM):a7 P f cM:=by
 cases bh:P.funcs[f]? with
 |none=>simp_all
 |some fn=>
  rw[bh]at h1 sh;exact⟨fn,an,bh,axY,sh⟩
theorem jq(b:Bool)(p:Out):(gg tab call fuel).guard b p=some x↔b=true/\p=some x:=by
 grind[gg]
theorem ajQ{p q:Out}(h:(gg tab call fuel).both p q=some x):p=some x/\q=some x:=by
 simp[gg]at h;split at h
 .rename_i a b;cases au:Cc a b with
  |true=>
   rw[au]at h;grind[ajP]
  |false=>simp_all
 simp_all
theorem h8:((gg tab call fuel).fail=some x)=False:=by simp[gg]
def gX(P:Program)(gl:Nat->List D)(call:Nat->List ah->aU->Out):Prop:=∀f args s r s',call f args s=some (r,s')->bG P gl f args s r s'
theorem ajR(az:gX P gl call){f:Nat}{args:List ah}{s:aU}{K:ah->aU->Out}{K':ah->aU->Prop}(ao:∀r s,K r s=some x->K' r s)(h:kP (gg tab call fuel) f args s K=some x):
  kP (bx P gl) f args s K':=by
 unfold kP at h⊢;rw[jq]at h;obtain⟨h1,sh⟩:=h;refine⟨h1,?_⟩;have:∀{fp:List ah} {fq:aU} {QX:ah->aU->Out},(gg tab call fuel).call f fp fq QX=some x->∃r s',call f fp fq=some (r,s')/\QX r s'=some x:=by
  grind[gg]
 obtain⟨r,s',av,aW⟩:=this sh;rw[jq]at aW;exact⟨r,s',az _ _ _ _ _ av,aW.1,ao _ _ aW.2⟩
theorem J9{nw rw:Bool}{d s:Nat}{y:O}{sz b1:Nat}{st:ag}{K:ag->Out}{K':ag->Prop}(ao:∀st,K st=some x->K' st)(h:hG (gg tab call fuel) gl nw rw d s y sz b1 st K=some x):hG (bx P gl) gl nw rw d s y sz b1 st K':=by
 unfold hG at h⊢;split at h
 .rename_i ej l e;cases au:(nw&&l.isEmpty)with
  |true=>
   rw[au]at h;split at h
   .simp_all
   .cases rw with
    |true=>
     simp at h⊢;split at h
     .rw[jq]at h;exact⟨h.1,ao _ h.2⟩
     grind[h8]
    |false=>
     simp at h⊢;rw[jq]at h;exact⟨h.1,ao _ h.2⟩
   grind[h8]
  |false=>
   rw[au]at h;simp at h⊢;split at h
   .rw[jq]at h;exact⟨h.1,ao _ h.2⟩
   grind[h8]
 .split at h
  .split at h
   .rw[jq]at h;exact⟨h.1,ao _ h.2⟩
   grind[h8]
  grind[h8]
 .rename_i i off len cap ej e;split at h
  .rename_i cs us k aj aF;rw[jq]at h;refine⟨h.1,?_⟩;have sh:=h.2;cases au:Nat.ble (len+k) cap with
   |true=>rw[au]at sh;simp at sh⊢;rw[jq]at sh;exact⟨sh.1,ao _ sh.2⟩
   |false=>rw[au]at sh;simp at sh⊢;rw[jq]at sh;exact⟨sh.1,ao _ sh.2⟩
  grind[h8]
 .split at h
  .rw[jq]at h;exact⟨h.1,ao _ h.2⟩
  grind[h8]
 grind[h8]
theorem Cf(az:gX P gl call){i:I}{st:ag}{K:ag->Out}{K':ag->Prop}(ao:∀st,K st=some x->K' st)(h:step (gg tab call fuel) gl i st K=some x):step (bx P gl) gl i st K':=by
 cases i;case dH d f xs=>
  simp[step]at h⊢;grind[ajR,h8]
 case dU d c a b=>
  simp[step]at h⊢;grind[h8]
 case mA d neg ho y=>
  match ho with
  |0=>
   simp[step]at h⊢;split at h
   .simp_all
   .have hh:=ajQ h;exact⟨ao _ hh.1,ao _ hh.2⟩
   grind[h8]
  |1|2|3|4=>
   simp[step]at h⊢;grind[h8]
  |n+5=>simp_all[step,h8]
 case ap d s y sz b1=>exact J9 ao h
 case nj d s y sz b1=>exact J9 ao h
 case nk d s y sz b1=>exact J9 ao h
 all_goals (simp only[step]at h)
 all_goals (try simp only[step])
 all_goals (repeat' split at h)
 all_goals first
  |(rw[h8]at h;simp_all)
  |exact ao _ h
  |(simp;exact ao _ h)
  |(rw[jq]at h;exact⟨h.1,ao _ h.2⟩)
  |(rw[jq]at h;have h1:=h.1;have sh:=ao _ h.2;simp;done)
  |(simp[jq]at h;have h1:=h.1;have sh:=h.2.1;simp_all[ik])
  |simp_all[jq,h8]
theorem Cg(az:gX P gl call):∀{l:List cf} {st:ag} {K:ag->Out} {K':ag->Prop},(∀st,K st=some x->K' st)->steps (gg tab call fuel) gl l st K=some x->steps (bx P gl) gl l st K'
 |[],st,K,K',ao,h=>ao _ h
 |⟨none,i⟩::l,st,K,K',ao,h=>Cf az (λst h=>Cg az ao h) h
 |⟨some (s,want),i⟩::l,st,K,K',ao,h=>by
  simp only[steps]at h⊢;split at h
  .rename_i b e;cases au:cond want b (!b)with
   |true=>rw[au]at h;simp at h⊢;exact Cf az (λst h=>Cg az ao h) h
   |false=>rw[au]at h;exact Cg az ao h
  .rename_i e;exact Cg az ao h
  .rw[h8]at h;exact h.elim
theorem ajS(az:gX P gl call){g:cf}{st:ag}{K:ag->Out}{K':ag->Prop}(ao:∀st,K st=some x->K' st)(h:step1 (gg tab call fuel) gl g st K=some x):step1 (bx P gl) gl g st K':=by
 unfold step1 at h⊢;split at h
 .grind[Cf]
 .split at h
  .rename_i b e;cases au:cond _ b (!b)with
   |true=>grind[Cf]
   |false=>simp_all
  all_goals grind[h8]
theorem ajT(az:gX P gl call){id:Nat}{g:cf}{st:ag}{K:ag->Out}{K':ag->Prop}(ao:∀st,K st=some x->K' st)(h:kp (gg tab call fuel) gl id g st K=some x):kp (bx P gl) gl id g st K':=by
 unfold kp at h⊢;cases bp:hZ g.i with
 |true=>
  rw[bp]at h;simp at h⊢;split at h
  .rw[jq]at h;exact⟨h.1,ao _ h.2⟩
  grind[h8]
 |false=>
  grind[ajS]
theorem QY(az:gX P gl call):∀{l:List cf} {dy:List (List Nat)} {acc:List (cf×jc)} {id:Nat} {st:ag} {K:ag->Out} {K':ag->Prop},(∀st,K st=some x->K' st)->qu (gg tab call fuel) gl l dy acc id st K=some x->qu (bx P gl) gl l dy acc id st K'
 |[],_,_,_,_,_,_,ao,h=>ao _ h
 |g::l,dy,acc,id,st,K,K',ao,h=>by
  refine ajT az (λaT h=> ?_) h;rw[jq]at h;exact⟨h.1,QY az ao h.2⟩
theorem QZ(az:gX P gl call){l:List cf}{dy:List (List Nat)}{st:ag}{K:ag->Out}{K':ag->Prop}(ao:∀st,K st=some x->K' st)(h:qv (gg tab call fuel) gl l dy st K=some x):qv (bx P gl) gl l dy st K':=QY az ao h
theorem Fu{n:Nat}{ts bs:List Nat}{st:ag}{K:ag->Out}{K':ag->Prop}(ao:∀st,K st=some x->K' st)(h:forget (gg tab call fuel) n ts bs st K=some x):forget (bx P gl) n ts bs st K':=by
 unfold forget at h⊢;rw[jq]at h;exact⟨h.1,ao _ h.2⟩
def vB(P:Program)(tab:Nat->Option aX):Prop:=∀f cM,tab f=some cM->a7 P f cM
theorem Q0(az:gX P gl call){Y:iR Out}{kc:iR Prop}(hl:∀vs s iA pQ,(∀p s,iA p s=some x->pQ p s)->Y vs s iA=some x->kc vs s pQ){yi:Nat}{i:I}{st:ag}{pp:Option aB}{K:ag->Option aB->Out}{K':ag->Option aB->Prop}
  (ao:∀st p,K st p=some x->K' st p) (h:mD (gg tab call fuel) gl Y yi i st pp K=some x):mD (bx P gl) gl kc yi i st pp K':=by
 rcases J3 (gl:=gl) (yi:=yi) (A:=gg tab call fuel) (Y:=Y) (i:=i) (st:=st) (pp:=pp) (K:=K)with⟨j,d,f,args,rfl,bh,he⟩|he
 .rw[he,jq]at h;simp[mD,A7,bh];refine⟨h.1,?_⟩;have sh:=h.2;unfold A6 at sh⊢;rw[jq]at sh;exact⟨sh.1,hl _ _ _ _ (λp s hh=>ao _ _ hh) sh.2⟩
 .rcases J3 (gl:=gl) (yi:=yi) (A:=bx P gl) (Y:=kc) (i:=i) (st:=st) (pp:=pp) (K:=K')with⟨j,d,f,args,rfl,bh,EB⟩|EB
  .simp_all[step,h8]
  grind[Cf]
theorem Ch(az:gX P gl call){Y:iR Out}{kc:iR Prop}(hl:∀vs s iA pQ,(∀p s,iA p s=some x->pQ p s)->Y vs s iA=some x->kc vs s pQ){yi:Nat}:
  ∀{l:List cf} {st:ag} {pp:Option aB} {K:ag->Option aB->Out} {K':ag->Option aB->Prop},(∀st p,K st p=some x->K' st p)->h3 (gg tab call fuel) gl Y yi l st pp K=some x->h3 (bx P gl) gl kc yi l st pp K'
 |[],st,pp,K,K',ao,h=>ao _ _ h
 |⟨none,i⟩::l,st,pp,K,K',ao,h=>Q0 az hl (λst p h=>Ch az hl ao h) h
 |⟨some (s,want),i⟩::l,st,pp,K,K',ao,h=>by
  simp only[h3]at h⊢;split at h
  .rename_i b e;cases au:cond want b (!b)with
   |true=>rw[au]at h;exact Q0 az hl (λst p h=>Ch az hl ao h) h
   |false=>rw[au]at h;exact Ch az hl ao h
  .rename_i e;exact Ch az hl ao h
  .rw[h8]at h;exact h.elim
theorem ajU(az:gX P gl call){Y:iR Out}{kc:iR Prop}(hl:∀vs s iA pQ,(∀p s,iA p s=some x->pQ p s)->Y vs s iA=some x->kc vs s pQ){yi:Nat}:
  ∀{c:eG} {st:ag} {pp:Option aB} {K:aB->ag->Option aB->Out} {K':aB->ag->Option aB->Prop},(∀e st p,K e st p=some x->K' e st p)->hk (gg tab call fuel) gl Y yi c st pp K=some x->hk (bx P gl) gl kc yi c st pp K':=by
 intro c;induction c with
 |skip=>intro st pp K K' ao h;exact ao _ _ _ h
 |ops l=>intro st pp K K' ao h;exact Ch az hl (λst p h=>ao _ _ _ h) h
 |any l dy=>intro st pp K K' ao h;exact QZ az (λst h=>ao _ _ _ h) h
 |bad=>grind[hk,h8]
 |seq a b i_a jr=>
  intro st pp K K' ao h;refine i_a (λe st p h=> ?_) h;grind
 |cond c a b i_a jr=>
  grind[hk,h8]
 |block i b ih=>
  intro st pp K K' ao h;refine ih (λe st p h=> ?_) h;grind
 |loop ts bs b ih=>
  intro st pp K K' ao h;simp[hk]at h⊢;rw[jq]at h;refine⟨h.1,Fu (λst0 h=> ?_) h.2⟩;refine⟨λn st=>vA n (λcI rec=>hk (gg tab call fuel) gl Y yi b cI none λx st p=>match x with
   |.normal=>(gg tab call fuel).guard p.isNone (forget (gg tab call fuel) cI.s.length ts bs st rec)
   |x=>K x st p) st=some x,fuel,h,?_⟩
  intro n cI h1;cases n with
  |zero=>grind[vA]
  |succ n=>
   refine ih (λe st p h=> ?_) h1;cases e with
   |normal=>rw[jq]at h;exact⟨h.1,Fu (λst h=>⟨n,aCs n,h⟩) h.2⟩
   |exit i=>simp_all
   |ret=>simp_all
 |ia y ps a b _ _=>grind[hk,h8]
 |exit i=>intro st pp K K' ao h;exact ao _ _ _ h
 |ret=>intro st pp K K' ao h;exact ao _ _ _ h
theorem ajV(az:gX P gl call)(aE:vB P tab){mE ia:ag->(aB->ag->Out)->Out}{Q5 Q6:ag->(aB->ag->Prop)->Prop}(bp:∀st K K',(∀e st,K e st=some x->K' e st)->mE st K=some x->Q5 st K')
  (au:∀st K K',(∀e st,K e st=some x->K' e st)->ia st K=some x->Q6 st K') {ps:List Nat} {g:Nat} {gI:List ah} {st:ag} {K:aB->ag->Out} {K':aB->ag->Prop} (ao:∀e st,K e st=some x->K' e st)
  (h:pq (gg tab call fuel) gl mE ia ps g gI st K=some x):pq (bx P gl) gl Q5 Q6 ps g gI st K':=by
 unfold pq at h⊢;simp[gg]at h;split at h
 .rename_i cM Fs;change (gg tab call fuel).guard _ (hk (gg tab call fuel) gl (rJ (gg tab call fuel) mE ia ps st.lr) _ _ _ _ _)=some x at h;rw[jq]at h;refine⟨cM,aE _ _ Fs,h.1,ajU az (λvs s iA pQ xF ax=> ?_) (λe st p hh=> ?_) h.2⟩
  .unfold rJ at ax⊢;rw[jq]at ax;refine⟨ax.1,bp _ _ _ (λe st hh=> ?_) ax.2⟩;grind[h8]
  grind
 simp_all
theorem ajW(az:gX P gl call)(aE:vB P tab):∀{c:eG} {st:ag} {K:aB->ag->Out} {K':aB->ag->Prop},(∀e st,K e st=some x->K' e st)->run (gg tab call fuel) gl c st K=some x->run (bx P gl) gl c st K':=by
 intro c;induction c with
 |skip=>intro st K K' ao h;exact ao _ _ h
 |ops l=>intro st K K' ao h;exact Cg az (λst h=>ao _ _ h) h
 |any l dy=>intro st K K' ao h;exact QZ az (λst h=>ao _ _ h) h
 |bad=>grind[run,h8]
 |seq a b i_a jr=>
  intro st K K' ao h;refine i_a (λe st h=> ?_) h;grind
 |cond c a b i_a jr=>
  grind[run,h8]
 |block i b ih=>
  intro st K K' ao h;refine ih (λe st h=> ?_) h;grind
 |loop ts bs b ih=>
  intro st K K' ao h;refine Fu (λst0 h=> ?_) h;refine⟨λn st=>vA n (λcI rec=>run (gg tab call fuel) gl b cI λx st=>match x with
   |.normal=>forget (gg tab call fuel) cI.s.length ts bs st rec
   |x=>K x st) st=some x,fuel,h,?_⟩
  intro n cI h1;cases n with
  |zero=>grind[vA]
  |succ n=>
   refine ih (λe st h=> ?_) h1;cases e with
   |normal=>exact Fu (λst h=>⟨n,aCs n,h⟩) h
   |exit i=>simp_all
   |ret=>simp_all
 |ia y ps a b i_a jr=>
  grind[run,ajV,h8]
 |exit i=>intro st K K' ao h;exact ao _ _ h
 |ret=>intro st K K' ao h;exact ao _ _ h
theorem Q7(az:gX P gl call)(aE:vB P tab){cM:aX}{args:List ah}{s:aU}{K:ah->aU->Out}{K':ah->aU->Prop}(ao:∀r s,K r s=some x->K' r s)(h:lS (gg tab call fuel) gl cM args s K=some x):
  lS (bx P gl) gl cM args s K':=by
 refine ajW az aE (λe st h=> ?_) h;have key:∀{st:ag},(match qw st cM.res with
   |some r=>(gg tab call fuel).guard (ea depth r) (K r (gc s.length r st.s))
   |none=>(gg tab call fuel).fail)=some x->(match qw st cM.res with
   |some r=>(bx P gl).guard (ea depth r) (K' r (gc s.length r st.s))
   |none=>(bx P gl).fail):=by
  intro st h;cases ax:qw st cM.res with
  |some r=>rw[ax]at h;rw[jq]at h;exact⟨h.1,ao _ _ h.2⟩
  |none=>grind[h8]
 grind[h8]
theorem avM(aE:vB P tab):∀n,gX P gl (exec tab gl fuel n):=by
 intro n;induction n with
 |zero=>intro f args s r s' h;grind[exec]
 |succ n ih=>
  intro f args s r s' h;simp[exec]at h;split at h
  .rename_i cM hv;refine(aE f cM hv).fh (Q7 ih aE (λr0 fq wb=> ?_) h);simp_all
  simp_all
def Ci(ext:Nat->List ah->aU->Out)(tab:Nat->Option aX)(gl:Nat->List D)(fuel:Nat):Nat->Nat->List ah->aU->Out
 |0,_,_,_=>none
 |n+1,f,args,s=>match ext f args s with
  |some r=>some r
  |none=>match tab f with
   |some cM=>lS (gg tab (Ci ext tab gl fuel n) fuel) gl cM args s λr s'=>some (r,s')
   |none=>none
theorem ajX{ext:Nat->List ah->aU->Out}(he:gX P gl ext)(aE:vB P tab):∀n,gX P gl (Ci ext tab gl fuel n):=by
 intro n;induction n with
 |zero=>intro f args s r s' h;grind[Ci]
 |succ n ih=>
  intro f args s r s' h;simp[Ci]at h;split at h
  .rename_i q aS;rw[h]at aS;exact he _ _ _ _ _ aS
  .split at h
   .rename_i cM hv;refine(aE f cM hv).fh (Q7 ih aE (λr0 fq wb=> ?_) h);simp_all
   simp_all
end
def fR(P:Program)(gl:Nat->List D):mB Prop where
 fail:=False
 guard b p:=b=true/\p
 call f args s K:=∃r s',bG P gl f args s r s'/\K r s'
 fix F st:=∃(I:Nat->ag->Prop) (n:Nat),I n st/\∀n st,I n st->F st λaT=>∃m,m<n/\I m aT
 both _ _:=False
 iter g k:=∃cM,a7 P g cM/\k cM
def hE(P:Program)(gl:Nat->List D)(bt:Prop->Prop->Prop):mB Prop where
 fail:=False
 guard b p:=b=true/\p
 call f args s K:=∃r s',bG P gl f args s r s'/\K r s'
 fix F st:=∃(I:Nat->ag->Prop) (n:Nat),I n st/\∀n st,I n st->F st λaT=>∃m,m<n/\I m aT
 both:=bt
 iter g k:=∃cM,a7 P g cM/\k cM
section
variable {P:Program}{gl:Nat->List D}{bt:Prop->Prop->Prop}
theorem avN(b:Bool)(p:Prop):(hE P gl bt).guard b p=(b=true/\p):=rfl
theorem avO:(fR P gl).fail=False:=rfl
theorem avP(b:Bool)(p:Prop):(fR P gl).guard b p=(b=true/\p):=rfl
theorem avQ(p q:Prop):(fR P gl).both p q=False:=rfl
theorem Q8{f:Nat}{args:List ah}{s:aU}{K:ah->aU->Prop}(h:kP (fR P gl) f args s K):
  ∃r s',K r s'/\∀K':ah->aU->Prop,K' r s'->kP (hE P gl bt) f args s K':=by
 obtain⟨h1,r,s',sh,av,aW⟩:=h;exact⟨_,_,aW,λK' ao=>⟨h1,r,s',sh,av,ao⟩⟩
theorem J'{nw rw:Bool}{d s:Nat}{y:O}{sz b1:Nat}{st:ag}{K:ag->Prop}(h:hG (fR P gl) gl nw rw d s y sz b1 st K):∃aT,K aT/\∀K':ag->Prop,K' aT->hG (hE P gl bt) gl nw rw d s y sz b1 st K':=by
 unfold hG at h⊢;split at h
 .rename_i ej l e;cases au:(nw&&l.isEmpty)with
  |true=>
   rw[au]at h;split at h
   .grind
   .cases rw with
    |true=>
     split at h
     .obtain⟨h1,sh⟩:=h;exact⟨_,sh,λK' ao=>⟨h1,ao⟩⟩
     .exact h.elim
    |false=>
     obtain⟨h1,sh⟩:=h;exact⟨_,sh,λK' ao=>⟨h1,ao⟩⟩
   .exact h.elim
  |false=>
   rw[au]at h;simp at h⊢;split at h
   .obtain⟨h1,sh⟩:=h;exact⟨_,sh,λK' ao=>⟨h1,ao⟩⟩
   .exact h.elim
 .split at h
  .split at h
   .obtain⟨h1,sh⟩:=h;exact⟨_,sh,λK' ao=>⟨h1,ao⟩⟩
   .exact h.elim
  .exact h.elim
 .rename_i i off len cap ej e;split at h
  .rename_i cs us k aj aF;obtain⟨h1,h⟩:=h;cases au:Nat.ble (len+k) cap with
   |true=>rw[au]at h;obtain⟨sh,av⟩:=h;exact⟨_,av,λK' ao=>⟨h1,sh,ao⟩⟩
   |false=>rw[au]at h;obtain⟨sh,av⟩:=h;exact⟨_,av,λK' ao=>⟨h1,sh,ao⟩⟩
  .exact h.elim
 .split at h
  .obtain⟨aC,h⟩:=h;exact⟨_,h,λK' aq=>⟨aC,aq⟩⟩
  .exact h.elim
 .exact h.elim
theorem Cj{i:I}{st:ag}{K:ag->Prop}(h:step (fR P gl) gl i st K):∃aT,K aT/\∀K':ag->Prop,K' aT->step (hE P gl bt) gl i st K':=by
 cases i;case dH d f xs=>
  simp[step]at h⊢;split at h
  .rename_i e;obtain⟨r,s',h1,sh⟩:=Q8 h;exact⟨_,h1,λK' ao=>by first|exact sh _ ao|(exact sh _ ao)⟩
  .rename_i e;obtain⟨r,s',h1,sh⟩:=Q8 h;exact⟨_,h1,λK' ao=>by first|exact sh _ ao|(exact sh _ ao)⟩
  .exact h.elim
 case dU d c a b=>
  simp[step]at h⊢;split at h
  .grind
  .exact h.elim
 case ap d s y sz b1=>exact J' h
 case nj d s y sz b1=>exact J' h
 case nk d s y sz b1=>exact J' h
 all_goals (simp only[step]at h)
 all_goals (try simp only[step])
 all_goals (repeat' split at h)
 all_goals first
  |exact h.elim
  |exact⟨_,h,λK' ao=>ao⟩
  |(refine⟨_,h,λK' ao=> ?_⟩;simp_all)
  |(obtain⟨h1,sh⟩:=h;exact⟨_,sh,λK' ao=>⟨h1,ao⟩⟩)
  |(obtain⟨h1,sh⟩:=h;exact sh.elim)
  |(obtain⟨h1,sh⟩:=h;refine⟨_,sh,λK' ao=> ?_⟩;done)
  |(obtain⟨h1,sh,av⟩:=h;exact⟨_,av,λK' ao=>⟨h1,sh,ao⟩⟩)
  |(obtain⟨h1,sh,av⟩:=h;refine⟨_,av,λK' ao=> ?_⟩;done)
  |(obtain⟨h1,sh,av⟩:=h;exact av.elim)
theorem Ck:∀{l:List cf} {st:ag} {K:ag->Prop},steps (fR P gl) gl l st K->∃aT,K aT/\∀K':ag->Prop,K' aT->steps (hE P gl bt) gl l st K'
 |[],st,K,h=>⟨st,h,λK' ao=>ao⟩
 |⟨none,i⟩::l,st,K,h=>by
  obtain⟨cI,h1,sh⟩:=Cj h;obtain⟨aP,av,aW⟩:=Ck h1;exact⟨aP,av,λK' ao=>sh _ (aW _ ao)⟩
 |⟨some (s,want),i⟩::l,st,K,h=>by
  simp only[steps]at h⊢;split at h
  .rename_i b e;cases au:cond want b (!b)with
   |true=>
    rw[au]at h;simp at h⊢;obtain⟨cI,h1,sh⟩:=Cj h;obtain⟨aP,av,aW⟩:=Ck h1;exact⟨aP,av,λK' ao=>sh _ (aW _ ao)⟩
   |false=>simp_all[Ck]
  .simp_all[Ck]
  .exact h.elim
theorem ajY{g:cf}{st:ag}{K:ag->Prop}(h:step1 (fR P gl) gl g st K):∃aT,K aT/\∀K':ag->Prop,K' aT->step1 (hE P gl bt) gl g st K':=by
 unfold step1 at h⊢;split at h
 .exact Cj h
 .split at h
  .rename_i b e;cases au:cond _ b (!b)with
   |true=>simp_all[Cj]
   |false=>grind
  .grind
  .exact h.elim
theorem ajZ{id:Nat}{g:cf}{st:ag}{K:ag->Prop}(h:kp (fR P gl) gl id g st K):∃aT,K aT/\∀K':ag->Prop,K' aT->kp (hE P gl bt) gl id g st K':=by
 unfold kp at h⊢;cases bp:hZ g.i with
 |true=>
  rw[bp]at h;split at h
  .obtain⟨h1,sh⟩:=h;exact⟨_,sh,λK' ao=>⟨h1,ao⟩⟩
  .exact h.elim
 |false=>
  simp_all[ajY]
theorem Q9:∀{l:List cf} {dy:List (List Nat)} {acc:List (cf×jc)} {id:Nat} {st:ag} {K:ag->Prop},qu (fR P gl) gl l dy acc id st K->∃aT,K aT/\∀K':ag->Prop,K' aT->qu (hE P gl bt) gl l dy acc id st K'
 |[],_,_,_,st,_,h=>⟨st,h,λK' ao=>ao⟩
 |g::l,dy,acc,id,st,K,h=>by
  obtain⟨cI,⟨h1,sh⟩,av⟩:=ajZ h;obtain⟨aP,aW,bL⟩:=Q9 sh;exact⟨aP,aW,λK' ao=>av _ ⟨h1,bL _ ao⟩⟩
theorem Q'{l:List cf}{dy:List (List Nat)}{st:ag}{K:ag->Prop}(h:qv (fR P gl) gl l dy st K):∃aT,K aT/\∀K':ag->Prop,K' aT->qv (hE P gl bt) gl l dy st K':=Q9 h
def Fv(F:(ag->Prop)->(aB->ag->Prop)->ag->Prop)(e:aB)(cI:ag):Nat->ag->Prop
 |0,_=>False
 |k+1,st=>∀(K:aB->ag->Prop) (R:ag->Prop),K e cI->(∀aT,Fv F e cI k aT->R aT)->F R K st
def Fw(Y kc:iR Prop):Prop:=∀vs s iA,Y vs s iA->∃p s',iA p s'/\∀pQ,pQ p s'->kc vs s pQ
theorem Ra{Y kc:iR Prop}(hl:Fw Y kc){yi:Nat}{i:I}{st:ag}{p:Option aB}{K:ag->Option aB->Prop}(h:mD (fR P gl) gl Y yi i st p K):
  ∃aT p',K aT p'/\∀K':ag->Option aB->Prop,K' aT p'->mD (hE P gl bt) gl kc yi i st p K':=by
 unfold mD at h⊢;split at h
 .rename_i e;obtain⟨h1,sh,av⟩:=h;obtain⟨p',s',aW,bL⟩:=hl _ _ _ av;exact⟨_,_,aW,λK' ao=>⟨h1,sh,bL _ ao⟩⟩
 .rename_i ay;obtain⟨aT,h1,sh⟩:=Cj h;exact⟨aT,p,h1,λK' ao=>sh _ ao⟩
theorem Cl{Y kc:iR Prop}(hl:Fw Y kc){yi:Nat}:∀{l:List cf} {st:ag} {p:Option aB} {K:ag->Option aB->Prop},h3 (fR P gl) gl Y yi l st p K->
  ∃aT p',K aT p'/\∀K':ag->Option aB->Prop,K' aT p'->h3 (hE P gl bt) gl kc yi l st p K'
 |[],st,p,K,h=>⟨st,p,h,λK' ao=>ao⟩
 |⟨none,i⟩::l,st,p,K,h=>by
  obtain⟨cI,AN,h1,sh⟩:=Ra hl h;obtain⟨aP,eb,av,aW⟩:=Cl hl h1;exact⟨aP,eb,av,λK' ao=>sh _ (aW _ ao)⟩
 |⟨some (s,want),i⟩::l,st,p,K,h=>by
  simp only[h3]at h⊢;split at h
  .rename_i b e;cases au:cond want b (!b)with
   |true=>
    rw[au]at h;obtain⟨cI,AN,h1,sh⟩:=Ra hl h;obtain⟨aP,eb,av,aW⟩:=Cl hl h1;exact⟨aP,eb,av,λK' ao=>sh _ (aW _ ao)⟩
   |false=>rw[au]at h;exact Cl hl h
  .rename_i e;exact Cl hl h
  .exact h.elim
def Fx(F:(ag->Prop)->(aB->ag->Option aB->Prop)->ag->Prop)(e:aB)(cI:ag)(AN:Option aB):Nat->ag->Prop
 |0,_=>False
 |k+1,st=>∀(K:aB->ag->Option aB->Prop) (R:ag->Prop),K e cI AN->(∀aT,Fx F e cI AN k aT->R aT)->F R K st
theorem aj0{Y kc:iR Prop}(hl:Fw Y kc){yi:Nat}:∀{c:eG} {st:ag} {p:Option aB} {K:aB->ag->Option aB->Prop},hk (fR P gl) gl Y yi c st p K->
  ∃e aT p',K e aT p'/\∀K':aB->ag->Option aB->Prop,K' e aT p'->hk (hE P gl bt) gl kc yi c st p K':=by
 intro c;induction c with
 |skip=>intro st p K h;exact⟨_,_,_,h,λK' ao=>ao⟩
 |ops l=>intro st p K h;obtain⟨aT,p',h1,sh⟩:=Cl hl h;exact⟨_,_,_,h1,λK' ao=>sh _ ao⟩
 |any l dy=>intro st p K h;obtain⟨aT,h1,sh⟩:=Q' h;exact⟨_,_,_,h1,λK' ao=>sh _ ao⟩
 |bad=>intro st p K h;exact h.elim
 |seq a b i_a jr=>
  intro st p K h;obtain⟨e,cI,AN,h1,sh⟩:=i_a h;cases e with
  |normal=>
   obtain⟨aF,aP,eb,av,aW⟩:=jr h1;exact⟨aF,aP,eb,av,λK' ao=>sh _ (aW _ ao)⟩
  |exit i=>exact⟨_,_,_,h1,λK' ao=>sh _ ao⟩
  |ret=>exact⟨_,_,_,h1,λK' ao=>sh _ ao⟩
 |cond c a b i_a jr=>
  intro st p K h;simp[hk]at h⊢;split at h
  .grind
  .exact h.elim
 |block i b ih=>
  intro st p K h;obtain⟨e,cI,AN,h1,sh⟩:=ih h;cases e with
  |normal=>exact⟨_,_,_,h1,λK' ao=>sh _ ao⟩
  |ret=>exact⟨_,_,_,h1,λK' ao=>sh _ ao⟩
  |exit j=>
   simp only at h1;cases au:Nat.beq j i with
   |true=>rw[au]at h1;exact⟨_,_,_,h1,λK' ao=>sh _ axY⟩
   |false=>rw[au]at h1;exact⟨_,_,_,h1,λK' ao=>sh _ axY⟩
 |loop ts bs b ih=>
  intro st p K h;obtain⟨hp,aq,I,n,wb,tO⟩:=h;obtain⟨F,gx⟩:∃F:(ag->Prop)->(aB->ag->Option aB->Prop)->ag->Prop,F=λR K cI=>hk (hE P gl bt) gl kc yi b cI none λx st p=>match x with
   |.normal=>(hE P gl bt).guard p.isNone (forget (hE P gl bt) cI.s.length ts bs st R)
   |x=>K x st p:=⟨_,rfl⟩
  have key:∀n st,I n st->∃e cI AN k,K e cI AN/\Fx F e cI AN k st:=by
   intro n;induction n using Nat.strongRecOn with
   |_ n Ka=>
    intro st dr;obtain⟨x,aP,eb,h1,sh⟩:=ih (tO n st dr);cases x with
    |normal=>
     obtain⟨vC,hf,m,hm,su⟩:=h1;obtain⟨e,cI,AN,k,av,aW⟩:=Ka m hm _ su;refine⟨e,cI,AN,k+1,av,λK' R ao ch=> ?_⟩;rw[gx];exact sh _ ⟨vC,hf,ch _ aW⟩
    |exit i=>
     refine⟨.exit i,aP,eb,1,h1,λK' R ao ch=> ?_⟩;simp_all
    |ret=>
     refine⟨.ret,aP,eb,1,h1,λK' R ao ch=> ?_⟩;simp_all
  obtain⟨e,cI,AN,k,av,aW⟩:=key n _ wb;refine⟨e,cI,AN,av,λK' ao=>⟨hp,aq,Fx F e cI AN,k,aW,λn st ew=> ?_⟩⟩;cases n with
  |zero=>exact ew.elim
  |succ n=>
   have:=ew K' (λaT=>∃m,m<n+1/\Fx F e cI AN m aT) ao (λaT h=>⟨n,aCs n,h⟩);grind
 |ia y ps a b _ _=>intro st p K h;exact h.elim
 |exit i=>intro st p K h;exact⟨_,_,_,h,λK' ao=>ao⟩
 |ret=>intro st p K h;exact⟨_,_,_,h,λK' ao=>ao⟩
def CE(bt:Prop->Prop->Prop)(P:Program)(gl:Nat->List D)(c:eG):Prop:=∀(st:ag) (K:aB->ag->Prop),run (fR P gl) gl c st K->∃e aT,K e aT/\∀K':aB->ag->Prop,K' e aT->run (hE P gl bt) gl c st K'
theorem aj1{a b:eG}(bp:CE bt P gl a)(au:CE bt P gl b)(ps:List Nat)(st0:ag):Fw (rJ (fR P gl) (run (fR P gl) gl a) (run (fR P gl) gl b) ps st0) (rJ (hE P gl bt) (run (hE P gl bt) gl a) (run (hE P gl bt) gl b) ps st0):=by
 intro vs s iA h;obtain⟨aC,h⟩:=h;obtain⟨e,cI,h1,sh⟩:=bp _ _ h;cases e with
 |normal=>
  obtain⟨aF,aP,av,aW⟩:=au _ _ h1;cases aF with
  |normal=>exact⟨_,_,av,λK' ao=>⟨aC,sh _ (aW _ ao)⟩⟩
  |exit i=>exact⟨_,_,av,λK' ao=>⟨aC,sh _ (aW _ ao)⟩⟩
  |ret=>exact⟨_,_,av,λK' ao=>⟨aC,sh _ (aW _ ao)⟩⟩
 |exit i=>exact h1.elim
 |ret=>exact h1.elim
theorem Rb{a b:eG}(bp:CE bt P gl a)(au:CE bt P gl b){ps:List Nat}{g:Nat}{gI:List ah}{st:ag}{K:aB->ag->Prop}(h:pq (fR P gl) gl (run (fR P gl) gl a) (run (fR P gl) gl b) ps g gI st K):
  ∃e aT,K e aT/\∀K':aB->ag->Prop,K' e aT->pq (hE P gl bt) gl (run (hE P gl bt) gl a) (run (hE P gl bt) gl b) ps g gI st K':=by
 obtain⟨cM,h1,sh,av⟩:=h;obtain⟨e,cI,AN,aW,bL⟩:=aj0 (aj1 bp au ps st.lr) av;cases e with
 |exit i=>exact aW.elim
 |normal=>exact⟨_,_,aW,λK' ao=>⟨cM,h1,sh,bL _ ao⟩⟩
 |ret=>exact⟨_,_,aW,λK' ao=>⟨cM,h1,sh,bL _ ao⟩⟩
theorem Rc:∀{c:eG} {st:ag} {K:aB->ag->Prop},run (fR P gl) gl c st K->∃e aT,K e aT/\∀K':aB->ag->Prop,K' e aT->run (hE P gl bt) gl c st K':=by
 intro c;induction c with
 |skip=>intro st K h;exact⟨_,_,h,λK' ao=>ao⟩
 |ops l=>intro st K h;obtain⟨aT,h1,sh⟩:=Ck h;exact⟨_,_,h1,λK' ao=>sh _ ao⟩
 |any l dy=>intro st K h;obtain⟨aT,h1,sh⟩:=Q' h;exact⟨_,_,h1,λK' ao=>sh _ ao⟩
 |bad=>intro st K h;exact h.elim
 |seq a b i_a jr=>
  intro st K h;obtain⟨e,cI,h1,sh⟩:=i_a h;cases e with
  |normal=>
   obtain⟨aF,aP,av,aW⟩:=jr h1;exact⟨aF,aP,av,λK' ao=>sh _ (aW _ ao)⟩
  |exit i=>exact⟨_,_,h1,λK' ao=>sh _ ao⟩
  |ret=>exact⟨_,_,h1,λK' ao=>sh _ ao⟩
 |cond c a b i_a jr=>
  intro st K h;simp[run]at h⊢;split at h
  .grind
  .exact h.elim
 |block i b ih=>
  intro st K h;obtain⟨e,cI,h1,sh⟩:=ih h;cases e with
  |normal=>exact⟨_,_,h1,λK' ao=>sh _ ao⟩
  |ret=>exact⟨_,_,h1,λK' ao=>sh _ ao⟩
  |exit j=>
   simp only at h1;cases au:Nat.beq j i with
   |true=>rw[au]at h1;exact⟨_,_,h1,λK' ao=>sh _ axY⟩
   |false=>rw[au]at h1;exact⟨_,_,h1,λK' ao=>sh _ axY⟩
 |loop ts bs b ih=>
  intro st K h;obtain⟨aq,I,n,wb,tO⟩:=h;obtain⟨F,gx⟩:∃F:(ag->Prop)->(aB->ag->Prop)->ag->Prop,F=λR K cI=>run (hE P gl bt) gl b cI λx st=>match x with
   |.normal=>forget (hE P gl bt) cI.s.length ts bs st R
   |x=>K x st:=⟨_,rfl⟩
  have key:∀n st,I n st->∃e cI k,K e cI/\Fv F e cI k st:=by
   intro n;induction n using Nat.strongRecOn with
   |_ n Ka=>
    intro st dr;obtain⟨x,aP,h1,sh⟩:=ih (tO n st dr);cases x with
    |normal=>
     obtain⟨hf,m,hm,su⟩:=h1;obtain⟨e,cI,k,av,aW⟩:=Ka m hm _ su;refine⟨e,cI,k+1,av,λK' R ao ch=> ?_⟩;rw[gx];exact sh _ ⟨hf,ch _ aW⟩
    |exit i=>
     refine⟨.exit i,aP,1,h1,λK' R ao ch=> ?_⟩;simp_all
    |ret=>
     refine⟨.ret,aP,1,h1,λK' R ao ch=> ?_⟩;simp_all
  obtain⟨e,cI,k,av,aW⟩:=key n _ wb;refine⟨e,cI,av,λK' ao=>⟨aq,Fv F e cI,k,aW,λn st ew=> ?_⟩⟩;cases n with
  |zero=>exact ew.elim
  |succ n=>
   have:=ew K' (λaT=>∃m,m<n+1/\Fv F e cI m aT) ao (λaT h=>⟨n,aCs n,h⟩);grind
 |ia y ps a b i_a jr=>
  intro st K h;simp[run]at h⊢;split at h
  .rename_i e;exact Rb (λ_ _=>i_a) (λ_ _=>jr) h
  .rename_i e;exact Rb (λ_ _=>i_a) (λ_ _=>jr) h
  .exact h.elim
 |exit i=>intro st K h;exact⟨_,_,h,λK' ao=>ao⟩
 |ret=>intro st K h;exact⟨_,_,h,λK' ao=>ao⟩
theorem aj2{cM:aX}{args:List ah}{s:aU}{K:ah->aU->Prop}(h:lS (fR P gl) gl cM args s K):∃r s',K r s'/\∀K':ah->aU->Prop,K' r s'->lS (hE P gl bt) gl cM args s K':=by
 obtain⟨e,st,h1,sh⟩:=Rc h;cases e with
 |exit i=>exact h1.elim
 |normal=>
  simp at h1;split at h1
  .rename_i r ax;exact⟨_,_,h1.2,λK' ao=>sh _ (by simp[ax];exact⟨h1.1,ao⟩)⟩
  .exact h1.elim
 |ret=>
  simp at h1;split at h1
  .rename_i r ax;exact⟨_,_,h1.2,λK' ao=>sh _ (by simp[ax];exact⟨h1.1,ao⟩)⟩
  .exact h1.elim
theorem a7.ext{f:Nat}{cM:aX}{args:List ah}{s:aU}{Q:ah->aU->Prop}(h:a7 P f cM)(ax:lS (fR P gl) gl cM args s Q):∃r s',Q r s'/\bG P gl f args s r s':=by
 obtain⟨r,s',h1,sh⟩:=aj2 (bt:=And) ax;exact⟨r,s',h1,h.fh (sh _ ⟨rfl,rfl⟩)⟩
end
def aCt:=@List.drop_drop
def aC2:=@Go.DataW.trod_string
def aC3:=@List.mem_map_of_mem
theorem ayh(h:p:=by simp[Value.oneCell']):p:=h
inductive iq where
 |bool
 |int (k:IntKind)
 |str
 |list (ai:Bool) (ts:List iq)
 deriving Inhabited,Repr
mutual
inductive zN(N:Nat):iq->D->Prop
 |bool (b:Bool):zN N .bool (.bool b)
 |int (k:IntKind) (n:Int):k.min<=n->n<=k.max->zN N (.int k) (.int k n)
 |str (s:List UInt8):s.length<=N->zN N .str (.str s)
 |list (ai:Bool) (ts:List iq) (l:List D):l.length<=N->q5 N ai ts l->zN N (.list ai ts) (.list ts.length l)
inductive q5(N:Nat):Bool->List iq->List D->Prop
 |nil (ai:Bool) (ts:List iq):q5 N ai ts []
 |agg (ts:List iq) (cs:List D) (l:List D):lB N ts cs->q5 N true ts l->q5 N true ts (.agg cs::l)
 |one (t:iq) (x:D) (l:List D):zN N t x->q5 N false [t] l->q5 N false [t] (x::l)
inductive lB(N:Nat):List iq->List D->Prop
 |nil:lB N [] []
 |cons (t:iq) (x:D) (ts:List iq) (xs:List D):zN N t x->lB N ts xs->lB N (t::ts) (x::xs)
end
section
variable (P:Program)
def Cm(f:Nat->Option (Bool×List iq)):List Field->Nat->Option (List iq)
 |[],_=>some []
 |x::xs,off=>match f x.type with
  |some (_,a)=>match Cm f xs (off+a.length)with
   |some b=>if x.offset=off/\P.cellsOf x.type=a.length then some (a++b)else none
   |none=>none
  |none=>none
def od:Nat->Nat->Option (Bool×List iq)
 |0,_=>none
 |n+1,t=>match P.underlying t with
  |some .bool=>some (false,[.bool])
  |some (.int k)=>some (false,[.int k])
  |some .string=>some (false,[.str])
  |some (.slice e)=>match od n e with
   |some (ai,ts)=>if P.cellsOf e=ts.length/\0<ts.length then some (false,[.list ai ts])else none
   |none=>none
  |some (.struct fs)=>match Cm P (od n) fs.toList 0 with
   |some ts=>if P.cellsOf t=ts.length then some (true,ts)else none
   |none=>none
  |_=>none
end
structure Cn{H:Type}(B:DataW H->Nat):Prop where
 str:∀s,s.length<=B (.lit (.string s))
 slice:∀es sp,es.length<=B (.slice es sp)/\∀x,x∈es->B x<=B (.slice es sp)
 agg:∀ps x,x∈ps->B x<=B (.agg ps)
def G0:bI:=λ_=>none
section
variable {P:Program}{W:World}{N off:Nat}
theorem lB.append{ts us:List iq}{xs ys:List D}(h:lB N ts xs)(sh:lB N us ys):lB N (ts++us) (xs++ys):=by
 induction ts generalizing xs with
 |nil=>cases h;grind
 |cons t ts ih=>cases h with|cons _ _ _ _ a b=>exact .cons _ _ _ _ a (ih b)
theorem lB.length{ts:List iq}{xs:List D}(h:lB N ts xs):xs.length=ts.length:=by
 induction ts generalizing xs with
 |nil=>cases h;rfl
 |cons t ts ih=>cases h with|cons _ _ _ _ a b=>simp_all
theorem aj3{b off j:Nat}:W.cell? ((⟨b,off,none⟩:Addr).add j)=W.cell? ⟨b,off+j,none⟩:=by
 grind[Addr.add]
theorem aj4{b off n:Nat}{vs:List Value}(h:W.cells? 0 ⟨b,off,none⟩ n=some vs)(h1:∀v,v∈vs->v.oneCell'=true):vs.length=n/\iT W G0 b off vs:=by
 obtain⟨_,aI,az⟩:=World.cells?_some h;refine⟨aI,λj v hv=>⟨?_,λL n h=>by grind[G0],h1 v (List.mem_of_getElem? hv)⟩⟩;grind[aj3]
theorem iT.app{b off:Nat}{vs us:List Value}(h:iT W G0 b off vs)(sh:iT W G0 b (off+vs.length) us):iT W G0 b off (vs++us):=by
 intro j v hv;rcases aA1 j vs.length with aK|aK
 .rw[aAY aK]at hv;exact h j v hv
 .rw[aA7 aK]at hv;have:=sh _ v hv;grind
def zO(ai:Bool)(xs:List D):D:=if ai then .agg xs else xs.getD 0 .dP
theorem q5.aj5{ai:Bool}{ts:List iq}{xs:List D}{l:List D}(dB:ai=false->∃t,ts=[t])(h:lB N ts xs)(sh:q5 N ai ts l):q5 N ai ts (zO ai xs::l)/\(zO ai xs).cells=xs:=by
 cases ai with
 |true=>exact⟨.agg _ _ _ h sh,rfl⟩
 |false=>
  obtain⟨t,rfl⟩:=dB rfl;cases h with
  |cons _ x _ xs h1 av=>
   cases av;refine⟨.one _ _ _ h1 sh,?_⟩;cases h1<;>rfl
theorem aj6{n t:Nat}{ts:List iq}(h:od P n t=some (false,ts)):∃c,ts=[c]:=by
 cases n with
 |zero=>grind[od]
 |succ n=>
  simp[od]at h;grind
theorem Re{H:Type}{f:Field->List Value->Option (DataW H×List MemPlace)}{B:DataW H->Nat}{cs:List Value}{g:Nat->Option (Bool×List iq)}:
  ∀{fs:List Field} {off:Nat} {ts:List iq} {ys:List (DataW H×List MemPlace)},Cm P g fs off=some ts->(fs.mapM λx=>f x ((cs.drop x.offset).take (P.cellsOf x.type)))=some ys->(∀y,y∈ys->B y.1<=N)->
  (∀x,x∈fs->∀cs d ps ai ts,g x.type=some (ai,ts)->f x cs=some (d,ps)->B d<=N->∃xs,cl W G0 cs xs/\lB N ts xs/\∀v,v∈cs->v.oneCell'=true)->
  ∃xs,cl W G0 ((cs.drop off).take ts.length) xs/\lB N ts xs/\∀v,v∈(cs.drop off).take ts.length->v.oneCell'=true
 |[],off,ts,ys,h1,sh,av,aW=>by
  simp[Cm,aAe]at h1;subst h1;exact⟨[],by simpa using .nil,.nil,axX⟩
 |x::fs,off,ts,ys,h1,sh,av,aW=>by
  simp[Cm]at h1;split at h1
  .rename_i ai a bp;split at h1
   .rename_i b au;split at h1
    .rename_i az;simp at h1;subst h1;simp only[aCk,aA8,aAq,aCF,aAe]at sh;obtain⟨y,wa,avR,Co,rfl⟩:=sh;obtain⟨d,ps⟩:=y;obtain⟨xs,aj,aF,aZ⟩:=aW x axX _ d ps _ _ bp wa (av (d,ps) axX);obtain⟨zs,f1,f2,f3⟩:=Re (off:=off+a.length) au Co (λy wa=>av y axZ) (λx ak=>aW x axZ);rw[az.1,az.2]at aj aZ;have avS:(cs.drop off).take (a++b).length=(cs.drop off).take a.length++(cs.drop (off+a.length)).take b.length:=by
      rw[aAA,List.take_add,aCt]
     refine⟨xs++zs,?_,aF.append f2,?_⟩
     .grind[cl.append]
     grind
    simp_all
   simp_all
  simp_all
theorem Rf{Y:Type}{b sz:Nat}{ai:Bool}{ts:List iq}(cg:sz=ts.length)(dB:ai=false->∃t,ts=[t]):
  ∀{ys:List Y} {k:Nat},(∀i y,ys[i]?=some y->∃vs xs,vs.length=sz/\iT W G0 b (off+(k+i)*sz) vs/\cl W G0 vs xs/\lB N ts xs)->
  ∃(l:List D) (vs:List Value),l.length=ys.length/\(∀d,d∈l->d.cells.length=sz)/\iT W G0 b (off+k*sz) vs/\cl W G0 vs (l.flatMap D.cells)/\q5 N ai ts l
 |[],k,_=>⟨[],[],rfl,axX,λj v hv=>axY,.nil,.nil _ _⟩
 |y::ys,k,h=>by
  obtain⟨vs,xs,aj,aF,aZ,bP⟩:=h 0 y rfl;obtain⟨l,us,f1,f2,f3,f4,f5⟩:=Rf cg dB (ys:=ys) (k:=k+1) λi y wa=>by
   obtain⟨vs,xs,g1,g2,g3⟩:=h (i+1) y axY;exact⟨vs,xs,g1,by rw[show k+1+i=k+(i+1)by omega];omega,g3⟩
  obtain⟨g1,g2⟩:=q5.aj5 dB bP f5;refine⟨zO ai xs::l,vs++us,axZ,?_,?_,?_,g1⟩
  .intro d aY;rcases aAs.1 aY with rfl|aY
   all_goals grind[lB.length]
  all_goals grind[iT.app,cl.append]
theorem aj7{H:Type}{enc:TypeId×Value->H}{sp:Nat->Bool}{B:DataW H->Nat}(eJ:Cn B):∀(n fuel t:Nat) (cs:List Value) (d:DataW H) (ps:List MemPlace) (ai:Bool) (ts:List iq),
  od P n t=some (ai,ts)->DataW.trod enc P W 0 sp true fuel t cs=some (d,ps)->B d<=N->∃xs,cl W G0 cs xs/\lB N ts xs/\∀v,v∈cs->v.oneCell'=true:=by
 intro n;induction n with
 |zero=>grind[od]
 |succ n ih=>
  intro fuel t cs d ps ai ts h1 sh b3;cases fuel with
  |zero=>simp_all[DataW.trod]
  |succ fuel=>
   simp[od]at h1;split at h1
   .rename_i hu;obtain⟨rfl,rfl⟩:=h1;obtain⟨b,rfl,_⟩:=DataW.trod_bool hu sh;exact⟨_,.cons _ _ _ _ (.bool _) .nil,.cons _ _ _ _ (.bool _) .nil,ayh⟩
   .rename_i k hu;obtain⟨rfl,rfl⟩:=h1;obtain⟨m,rfl,_,hw⟩:=DataW.trod_int hu sh;simp[Lit.wf,aAc,aAi]at hw;exact⟨_,.cons _ _ _ _ (.int _ _) .nil,.cons _ _ _ _ (.int _ _ hw.1 hw.2) .nil,ayh⟩
   .rename_i hu;obtain⟨rfl,rfl⟩:=h1;obtain⟨m,rfl,he,_⟩:=aC2 hu sh;simp at he;obtain⟨rfl,rfl⟩:=he;exact⟨_,.cons _ _ _ _ (.str _ _ rfl) .nil,.cons _ _ _ _ (.str _ (aAZ (eJ.str _) b3)) .nil,ayh⟩
   .rename_i e hu;split at h1
    .rename_i aj8 oU he;split at h1
     .rename_i az;simp[aAe,aAJ]at h1;obtain⟨rfl,rfl⟩:=h1;have dB:aj8=false->∃t,oU=[t]:=λh=>by grind[aj6]
      rcases DataW.trod_slice hu sh with⟨rfl,_⟩|⟨a,len,cap,elems,rest,n',bh,rfl,aY,_,qC,_,hlen,Kb,_,_⟩
      .exact⟨_,.cons _ _ _ _ (.kT _ _ _) .nil,.cons _ _ _ _ (.list _ _ _ (aAa _) (.nil _ _)) .nil,ayh⟩
      .simp[aAJ]at aY;obtain⟨rfl,_⟩:=aY;cases bh;have hs:=eJ.slice (elems.map (·.1)) (rest.map (·.1));rcases aCC len with wb|wb
       .subst wb;exact⟨_,.cons _ _ _ _ (.kT _ _ oU.length) .nil,.cons _ _ _ _ (.list _ _ _ (aAa _) (.nil _ _)) .nil,ayh⟩
       .obtain⟨b,off,spot⟩:=a;have aj9:spot=none:=by
         have:=Kb 0 wb;rw[aAj axW,aAq]at this;obtain⟨vs,jk,_⟩:=this;obtain⟨_,aI,Cb⟩:=World.cells?_some jk;have h1:=Cb 0 axW;rw[aAj axW]at h1;simp[aBy,Addr.add,if_true]at h1;unfold World.cell? at h1;split at h1
         .simp_all
         simp_all
        subst aj9;obtain⟨l,vs,f1,f2,f3,f4,f5⟩:=Rf (W:=W) (N:=N) (off:=off) (b:=b) (ys:=elems) (k:=0) (sz:=oU.length) rfl dB λi y wa=>by
         have hi:i<len:=axZ;have:=Kb i hi;rw[wa,aAq]at this;obtain⟨us,lu,aE⟩:=this;obtain⟨d,ps⟩:=y;obtain⟨xs,aj,aF,aZ⟩:=ih _ _ _ _ _ _ _ he aE (aAZ (hs.2 d (aAR.2 ⟨(d,ps),aAM wa,rfl⟩)) b3);rw[az.1]at lu;have aj':(⟨b,off,none⟩:Addr).add (i*oU.length)=⟨b,off+i*oU.length,none⟩:=by
          grind[Addr.add]
         rw[aj']at lu;obtain⟨c1,c2⟩:=aj4 lu aZ;grind
        rw[aBy,aAS]at f3;rw[hlen]at f1;exact⟨_,.cons _ _ _ _ (.list b off len cap oU.length l vs f1.symm qC f2 f3 f4) .nil,
         .cons _ _ _ _ (.list _ _ _ axZ f5) .nil,ayh⟩
     simp_all
    simp_all
   .rename_i fs hu;split at h1
    .rename_i oU he;split at h1
     .rename_i az;simp only[aAe,aAJ]at h1;obtain⟨rfl,rfl⟩:=h1;unfold DataW.trod at sh;simp only[hu]at sh;split at sh
      .rename_i aI;simp only[aA0,aAJ]at sh;obtain⟨ys,wa,rfl,rfl⟩:=sh;obtain⟨xs,aj,aF,aZ⟩:=Re (B:=B) (f:=λf cs=>DataW.trod enc P W 0 sp true fuel f.type cs) (off:=0) he wa (λy wa=>aAZ (eJ.agg _ _ (aC3 wa)) b3)
        (λx _ cs d ps ai ts h1 sh av=>ih fuel _ cs d ps ai ts h1 sh av)
       grind
      simp_all
     simp_all
    simp_all
   simp_all
end
theorem ax2(h:p:=by cases h):p:=h
section
variable {P:Program}{W:World}{N:Nat}
theorem aka{H:Type}{enc:TypeId×Value->H}{sp:Nat->Bool}{B:DataW H->Nat}(eJ:Cn B){n base t:Nat}{v:Value}{d:DataW H}{ps:List MemPlace}{ai:Bool}{ts:List iq}
  (aE:od P n t=some (ai,ts)) (hval:Value.okWide P W .any base t v) (aY:DataW.Trod enc P W 0 sp true t v d ps) (b3:B d<=N):∃xs,Rd W G0 v (zO ai xs)/\lB N ts xs:=by
 obtain⟨fuel,bh⟩:=aY;obtain⟨xs,h1,sh,av⟩:=aj7 eJ n fuel t _ _ _ _ _ aE bh b3;refine⟨xs,?_,sh⟩;cases n with
 |zero=>grind[od]
 |succ n=>
  have dB:ai=false->v.cells.toList=[v]->Rd W G0 v (zO ai xs):=by
   intro bp hv;subst bp;rw[hv]at h1;cases h1 with
   |cons _ x _ xs h1 av=>cases av;exact h1
  simp[od]at aE;unfold Value.okWide at hval;split at aE
  .rename_i hu;simp only[aAe,aAJ]at aE;refine dB aE.1.symm ?_;simp[Cell.okWide,hu]at hval;cases v<;>simp[Cell.ok,hu]at hval<;>rfl
  .rename_i hu;simp only[aAe,aAJ]at aE;refine dB aE.1.symm ?_;simp[Cell.okWide,hu]at hval;cases v<;>simp[Cell.ok,hu]at hval<;>rfl
  .rename_i hu;simp only[aAe,aAJ]at aE;refine dB aE.1.symm ?_;simp[Cell.okWide,hu]at hval;cases v<;>simp[Cell.ok,hu]at hval<;>rfl
  .rename_i e hu;split at aE
   .split at aE
    .simp only[aAe,aAJ]at aE;refine dB aE.1.symm ?_;simp[Cell.okWide,hu]at hval;cases v<;>simp[Cell.ok,hu]at hval<;>rfl
    simp_all
   simp_all
  .rename_i fs hu;split at aE
   .split at aE
    .simp only[aAe,aAJ]at aE;rw[hu]at hval;simp at hval;obtain⟨cs,rfl,_⟩:=hval;rw[<-aE.1];exact .agg _ _ h1
    simp_all
   simp_all
  simp_all
theorem Kc{W AS:World}{G':bI}(h:Good W G0 AS G'):∀i,i<W.heap.size->AS.heap[i]?=W.heap[i]?:=λi hi=>(h.iB i hi (.inl rfl)).1
theorem akb{W AS:World}{G':bI}{may:MemPlace->Prop}(h:Good W G0 AS G'):W.keptBut AS may:=by
 refine⟨h.os,h.out,λi hi=> ?_⟩;grind[Kc]
def Kd(W:World)(gl:Nat->List D):Prop:=∀g,∃vs,iT W G0 g 0 vs/\cl W G0 vs (gl g)/\((gl g).length=0\/∃c E fz,yS W G0 g (.cells c E fz)/\c.size=(gl g).length)
theorem akc{gl:Nat->List D}(h:Kd W gl):py gl W G0:=by
 refine⟨λg=> ?_,λg=> ?_⟩
 .obtain⟨vs,h1,sh,_⟩:=h g;have:=Rd.e1 g 0 0 vs _ h1 sh;omega
 .obtain⟨vs,_,_,av⟩:=h g;omega
inductive uc(N:Nat):List (Bool×List iq)->List ah->Prop
 |nil:uc N [] []
 |cons (ai:Bool) (ts:List iq) (xs:List D) (l8:List (Bool×List iq)) (fp:List ah):lB N ts xs->uc N l8 fp->uc N ((ai,ts)::l8) (.d (zO ai xs)::fp)
theorem Rg{H:Type}{enc:TypeId×Value->H}{sp:Nat->Bool}{B:DataW H->Nat}(eJ:Cn B){n base:Nat}:∀{ts:List Nat} {vs:List Value} {ds:List (DataW H)} {ps:List MemPlace} {l8:List (Bool×List iq)},
  ts.mapM (od P n)=some l8->(∀(j:Nat) t v,ts[j]?=some t->vs[j]?=some v->Value.okWide P W .any base t v)->DataW.TrodAll enc P W 0 sp true ts vs ds ps->(∀d,d∈ds->B d<=N)->
  ∃fp,uc N l8 fp/\ck W G0 [] vs fp/\ds.length=ts.length
 |[],vs,ds,ps,l8,h1,sh,av,aW=>by
  simp at h1;subst h1;cases vs with
  |nil=>cases ds with
   |nil=>exact⟨[],.nil,.nil,rfl⟩
   |cons _ _=>exact av.elim
  |cons _ _=>exact av.elim
 |t::ts,vs,ds,ps,l8,h1,sh,av,aW=>by
  simp only[aCk,aA8,aAq,aCF,aAe]at h1;obtain⟨⟨ai,avT⟩,az,avU,aE,rfl⟩:=h1;cases vs with
  |nil=>exact av.elim
  |cons v vs=>cases ds with
   |nil=>exact av.elim
   |cons d ds=>
    obtain⟨p,q,aj,aF,_⟩:=av;obtain⟨xs,f1,f2⟩:=aka eJ az (sh 0 t v rfl rfl) aj (aW d axX);obtain⟨fp,g1,g2,g3⟩:=Rg eJ aE (λj t v aE hv=>sh (j+1) t v axY axY) aF (λd aY=>aW d axZ);exact⟨_,.cons _ _ _ _ _ f2 g1,.cons _ _ _ _ (.d _ _ f1) g2,axZ⟩
theorem akd{W AS:World}{G':bI}(h:Good W G0 AS G'){p:MemPlace}(hp:p.block<W.heap.size):W.sameAt AS p:=by
 cases p with
 |cell b o=>exact aCm (w:=W) (Kc h b hp)
 |map b=>exact Kc h b hp
theorem Rh{H:Type}{enc:TypeId×Value->H}{W AS:World}{G':bI}(aI:laidOutB P=true)(h:Good W G0 AS G'):∀{ts:List Nat} {vs:List Value} {ds:List (DataW H)} {ps:List MemPlace},
  (∀t,t∈ts->P.readableRec t=true/\t<P.types.size)->DataW.TrodAll enc P W 0 (λ_=>true) true ts vs ds ps->(∀x,x∈ps->x.block<W.heap.size)->DataW.TrodAll enc P AS 0 (λb=>decide (b<W.heap.size)) true ts vs ds ps
 |[],vs,ds,ps,_,sh,_=>by
  cases vs with
  |nil=>cases ds with
   |nil=>exact sh
   |cons _ _=>exact sh.elim
  |cons _ _=>exact sh.elim
 |t::ts,vs,ds,ps,h1,sh,av=>by
  cases vs with
  |nil=>exact sh.elim
  |cons v vs=>cases ds with
   |nil=>exact sh.elim
   |cons d ds=>
    obtain⟨p,q,aj,aF,rfl⟩:=sh;obtain⟨bN,b5⟩:=h1 t axX;exact⟨p,q,WideElems.Trod_stays aI bN b5 aj (λx ak=>akd h (av x (by simp[ak]))) (λx ak=>by simpa using av x (by simp[ak])),
     Rh aI h (λt aE=>h1 t (by simp[aE])) aF (λx ak=>av x (by simp[ak])),rfl⟩
theorem ake{H:Type}{enc:TypeId×Value->H}{spec:ChangeSpec}{fn:Func}{f tb n base:Nat}{gl:Nat->List D}{B:DataW H->Nat}(eJ:Cn B){l8:List (Bool×List iq)}{args:Array Value}{ds gs:List (DataW H)}{before:List MemPlace}
  (Ri:spec.vars=[]) (wW:ds.length=fn.params.size->spec.fn H (ds++gs)={results:=[.lit (.bool true)],args:=ds})
  (Fp:fn.resultTypes= #[tb]) (au:P.underlying tb=some .bool) (aI:laidOutB P=true) (ax:(fn.params.toList.all λt=>P.readableRec t&&decide (t<P.types.size))=true)
  (Fy:fn.params.toList.mapM (od P n)=some l8) (Bv:Kd W gl)
  (hval:∀(j:Nat) t v,fn.params[j]?=some t->args[j]?=some v->Value.okWide P W .any base t v)
  (NO:DataW.Whole enc P fn.params.toList spec.vars false W args.toList ds gs before) (b3:∀d,d∈ds->B d<=N)
  (ud:∀fp,uc N l8 fp->bG P gl f fp [] (.d (.bool true)) []):
  Calls P f args W λe AS=>∃v,e=.returned v/\spec.post enc P fn false true false false W args v AS:=by
 have aDU:=NO;obtain⟨p,q,hA,AT,rfl,aDm,aDg⟩:=NO;obtain⟨fp,bp,dz,hlen⟩:=Rg eJ Fy (λj t v aE hv=>hval j t v axY axY) hA b3;obtain⟨_,rX⟩:=ud fp bp;have wX:args=⟨args.toList⟩:=axX;have az:=rX W G0 [] args.toList ⟨rfl,λi b o h=>axX⟩ (akc Bv) (λb L n h=>by grind[G0]) dz;refine az.mono ?_;rintro e AS ⟨v,G',ρ',rfl,hv,_,_,aC,_⟩;have akf:v=.bool true:=by
  have hA:=hv;cases hA with
  |d _ _ h=>cases h;rfl
 subst akf;rw[Ri]at AT;obtain⟨rfl,rfl⟩:=ChangeShapes.trodVars_none AT;have bh:=wW axW;refine⟨_,rfl,ds,[],p++[],[],p,[],aDU,?_,?_,?_,akb aC,λh=>ax2⟩
 .rw[bh];have hs:fn.resultTypes.size=1:=axZ;rw[hs,Fp];exact ChangeShapes.trodAll_mk1 (RowKit.shut_bool au true)
 .rw[bh];refine Rh aI aC (λt aE=> ?_) hA (λx ak=>aDU.lt x axZ);grind
 .rw[bh,Ri];rfl
end
noncomputable def ag.cP(st:ag)(k:Nat)(v:ah):ag:=⟨λj=>@Bool.rec (λ_=>ah) (st.aR j) v (Nat.beq j k),st.bH,st.s⟩
theorem ag.akg(st:ag)(k:Nat)(v:ah):st.cP k v=st.set k v:=by
 unfold ag.cP ag.set;congr 1;funext j;simp only[cC];cases Nat.beq j k<;>rfl
section
variable {R:Type}(A:mB R)(gl:Nat->List D)
noncomputable def Rj(d:Nat)(x:O)(st:ag)(K:ag->R):R:=
 K (st.cP d (snap (aL gl st x)))
noncomputable def Rk(d:Nat)(s:Nat)(st:ag)(K:ag->R):R:=
 K ((st.cP s .undef).cP d (st.aR s))
noncomputable def Rl(d:Nat)(x:O)(st:ag)(K:ag->R):R:=
 K ((kill st x).cP d (aL gl st x))
noncomputable def Rm(d:Nat)(c:O)(a:O)(b:O)(st:ag)(K:ag->R):R:=
 match aL gl st c with
  |.d (.bool t)=>cond t (K (st.cP d (snap (aL gl st a)))) (K (st.cP d (snap (aL gl st b))))
  |_=>A.fail
noncomputable def Rn(d:Nat)(z:List ah)(st:ag)(K:ag->R):R:=
 match st.bH d with
  |none=>K ((st.dX d z).cP d (.dT d 0))
  |some _=>A.fail
noncomputable def Ro(d:Nat)(x:O)(n:Nat)(st:ag)(K:ag->R):R:=
 match st.bH d with
  |none=>
   let cs:=cellsOf (gP (aL gl st x));A.guard (Nat.beq cs.length n&&cs.all (ea depth)) (K ((st.dX d cs).cP d (.dT d 0)))
  |some _=>A.fail
noncomputable def Rp(d:Nat)(z:List ah)(st:ag)(K:ag->R):R:=
 K ({st with s:=st.s++[b9.box z]}.cP d (.ptr st.s.length 0))
noncomputable def Rq(d:Nat)(x:O)(n:Nat)(st:ag)(K:ag->R):R:=
  let cs:=cellsOf (gP (aL gl st x));A.guard (Nat.beq cs.length n&&cs.all (ea depth)) (K ({st with s:=st.s++[b9.box cs]}.cP d (.ptr st.s.length 0)))
noncomputable def Rr(d:Nat)(z:List ah)(ps:List (Nat×Nat×O))(st:ag)(K:ag->R):R:=
 match pj gl st z ps with
  |some cs=>K (st.cP d (.agg cs))
  |none=>A.fail
noncomputable def Rs(d:Nat)(sz:Nat)(xs:List O)(st:ag)(K:ag->R):R:=
 match elems gl st sz xs with
  |some l=>K (st.cP d (.own sz l))
  |none=>A.fail
noncomputable def Rt(d:Nat)(a:O)(t:Nat)(off:Nat)(n:Nat)(ai:Bool)(st:ag)(K:ag->R):R:=
 match aL gl st a,st.bH t with
  |.dT ek dL,some cs=>
   A.guard (Nat.beq ek t&&Nat.beq dL off&&Nat.ble (off+n) cs.length) (K (st.cP d (valOf cs off n ai)))
  |_,_=>A.fail
noncomputable def Ru(d:Nat)(a:O)(t:Nat)(off:Nat)(st:ag)(K:ag->R):R:=
 match aL gl st a,st.bH t with
  |.dT ek dL,some cs=>
   A.guard (Nat.beq ek t&&Nat.beq dL off&&Nat.blt off cs.length) (K ((st.dX t (cs.set off .undef)).cP d (cs.getD off .undef)))
  |_,_=>A.fail
noncomputable def Rv(a:O)(t:Nat)(off:Nat)(x:O)(n:Nat)(st:ag)(K:ag->R):R:=
 match aL gl st a,st.bH t with
  |.dT ek dL,some cs=>
   let vs:=cellsOf (aL gl st x);A.guard (Nat.beq ek t&&Nat.beq dL off&&Nat.beq vs.length n&&Nat.ble (off+n) cs.length&&vs.all kn) (K ((kill st x).dX t (putCells cs off vs)))
  |_,_=>A.fail
noncomputable def Rw(d:Nat)(a:O)(n:Nat)(ai:Bool)(st:ag)(K:ag->R):R:=
 match aL gl st a with
  |.ptr i off=>match st.s.getD i .dead with
   |.box cs=>A.guard (Nat.ble (off+n) cs.length&&(ai||Nat.beq n 1)) (K (st.cP d (valOf cs off n ai)))
   |_=>A.fail
  |.d (.e1 cs off)=>A.guard (Nat.ble (off+n) cs.length) (K (st.cP d (.d (cond ai (.agg ((cs.drop off).take n)) (cs.getD off .dP)))))
  |_=>A.fail
noncomputable def Rx(d:Nat)(a:O)(st:ag)(K:ag->R):R:=
 match aL gl st a with
  |.ptr i off=>match st.s.getD i .dead with
   |.box cs=>A.guard (Nat.blt off cs.length) (K ({st with s:=st.s.set i (.box (cs.set off .undef))}.cP d (cs.getD off .undef)))
   |_=>A.fail
  |_=>A.fail
noncomputable def Ry(a:O)(x:O)(n:Nat)(st:ag)(K:ag->R):R:=
 match aL gl st a with
  |.ptr i off=>match st.s.getD i .dead with
   |.box cs=>
    let vs:=cellsOf (aL gl st x);A.guard (Nat.beq vs.length n&&Nat.ble (off+n) cs.length&&vs.all kn) (K {kill st x with s:=st.s.set i (.box (putCells cs off vs))})
   |_=>A.fail
  |_=>A.fail
noncomputable def Rz(d:Nat)(x:O)(st:ag)(K:ag->R):R:=
 match aL gl st x with
  |.ptr i o=>K (st.cP d (.ptr i o))
  |.dT t o=>K (st.cP d (.dT t o))
  |.d (.e1 cs o)=>K (st.cP d (.d (.e1 cs o)))
  |.d (.fn f)=>K (st.cP d (.d (.fn f)))
  |.func f a c=>K (st.cP d (.func f a c))
  |_=>A.fail
noncomputable def RA(d:Nat)(op:BinOp)(x:O)(y:O)(st:ag)(K:ag->R):R:=
 match aL gl st x,aL gl st y with
  |.d (.int k a),.d (.int k' b)=>match wK op k a b with
   |some r=>A.guard (decide (0<=b)) (K (st.cP d (.d r)))
   |none=>match A2 op k a b with
    |some (ok,r)=>A.guard (decide (k=k')) (A.guard ok (K (st.cP d (.d r))))
    |none=>A.fail
  |.d (.str a),.d (.str b)=>match A3 op a b with
   |some (ok,r)=>A.guard ok (K (st.cP d (.d r)))
   |none=>A.fail
  |_,_=>A.fail
noncomputable def RB(d:Nat)(neg:Bool)(ai:Bool)(ks:List Nat)(x:O)(y:O)(st:ag)(K:ag->R):R:=
 match hq (aL gl st x),hq (aL gl st y)with
  |some a,some b=>A.guard (fe ai a&&fe ai b) <| match cA ks a.cells b.cells with
   |some r=>K (st.cP d (.d (.bool (cond neg (!r) r))))
   |none=>A.fail
  |_,_=>A.fail
noncomputable def RC(d:Nat)(op:UnOp)(x:O)(st:ag)(K:ag->R):R:=
 match op,aL gl st x with
  |.not,.d (.bool b)=>K (st.cP d (.d (.bool (!b))))
  |.neg,.d (.int k n)=>K (st.cP d (.d (.int k (k.wrap (0-n)))))
  |.xor,.d (.int k n)=>K (st.cP d (.d (.int k (k.wrap (BitVec.ofInt k.bits (if k.signed then -1 else k.max)^^^BitVec.ofInt k.bits n).toNat))))
  |_,_=>A.fail
noncomputable def RD(d:Nat)(k:IntKind)(x:O)(st:ag)(K:ag->R):R:=
 match aL gl st x with
  |.d (.int _ n)=>K (st.cP d (.d (.int k (k.wrap n))))
  |_=>A.fail
noncomputable def RE(d:Nat)(x:O)(st:ag)(K:ag->R):R:=
 match aL gl st x with
  |.d (.str s)=>K (st.cP d (.d (.list 1 (s.map gk))))
  |_=>A.fail
noncomputable def RF(d:Nat)(x:O)(st:ag)(K:ag->R):R:=
 match hr (aL gl st x)with
  |some (_,l)=>match oD l with
   |some s=>K (st.cP d (.d (.str s)))
   |none=>A.fail
  |none=>A.fail
noncomputable def RG(d:Nat)(x:O)(off:Nat)(st:ag)(K:ag->R):R:=
 match aL gl st x with
  |.ptr i o=>K (st.cP d (.ptr i (o+off)))
  |.dT t o=>K (st.cP d (.dT t (o+off)))
  |.d (.e1 cs o)=>K (st.cP d (.d (.e1 cs (o+off))))
  |_=>A.fail
noncomputable def RH(d:Nat)(x:O)(off:Nat)(n:Nat)(ai:Bool)(st:ag)(K:ag->R):R:=
  let cs:=cellsOf (aL gl st x);A.guard (wI (aL gl st x)&&Nat.ble (off+n) cs.length) (K (st.cP d (valOf cs off n ai)))
noncomputable def RI(d:Nat)(x:O)(i:O)(sz:Nat)(st:ag)(K:ag->R):R:=
 match aL gl st i with
  |.d (.int _ n)=>match aL gl st x with
   |.aN j off len _ ib=>A.guard (Nat.beq ib sz&&decide (0<=n)&&decide (n<len)) (K (st.cP d (.ptr j (off+n.toNat*sz))))
   |v=>match hr v with
    |some (ib,l)=>A.guard (Nat.beq ib sz&&decide (0<=n)&&decide (n<l.length)) (K (st.cP d (.d (.e1 (l.getD n.toNat .dP).cells 0))))
    |none=>A.fail
  |_=>A.fail
noncomputable def RJ(d:Nat)(x:O)(i:O)(len:Nat)(sz:Nat)(st:ag)(K:ag->R):R:=
 match aL gl st i with
  |.d (.int _ n)=>A.guard (decide (0<=n)&&decide (n<len)) <| match aL gl st x with
   |.ptr j o=>K (st.cP d (.ptr j (o+n.toNat*sz)))
   |.dT t o=>K (st.cP d (.dT t (o+n.toNat*sz)))
   |.d (.e1 cs o)=>K (st.cP d (.d (.e1 cs (o+n.toNat*sz))))
   |_=>A.fail
  |_=>A.fail
noncomputable def RL(d:Nat)(x:O)(i:O)(st:ag)(K:ag->R):R:=
 match aL gl st x,aL gl st i with
  |.d (.str s),.d (.int _ n)=>A.guard (decide (0<=n)&&decide (n<s.length)) (K (st.cP d (.d (gk (s.getD n.toNat 0)))))
  |_,_=>A.fail
noncomputable def RM(d:Nat)(x:O)(lo:Option O)(hi:Option O)(st:ag)(K:ag->R):R:=
 match aL gl st x with
  |.d (.str s)=>match bound gl st 0 lo,bound gl st s.length hi with
   |some l,some h=>A.guard (decide (0<=l)&&decide (l<=h)&&decide (h<=s.length)) (K (st.cP d (.d (.str ((s.drop l.toNat).take (h.toNat-l.toNat))))))
   |_,_=>A.fail
  |_=>A.fail
noncomputable def RN(d:Nat)(hY:Nat)(x:O)(lo:Option O)(hi:Option O)(mx:Option O)(st:ag)(K:ag->R):R:=
 match aL gl st x with
  |.aN j off len cap sz=>match bound gl st 0 lo,bound gl st len hi,bound gl st cap mx with
   |some l,some h,some m=>A.guard (Nat.beq sz hY&&decide (0<=l)&&decide (l<=h)&&decide (h<=m)&&decide (m<=cap)) (K (st.cP d (cond (decide (l=m)) (.d (.list sz [])) (.aN j (off+l.toNat*sz) (h.toNat-l.toNat) (m.toNat-l.toNat) sz))))
   |_,_,_=>A.fail
  |v=>match hr v with
  |some (sz,s)=>match bound gl st 0 lo,bound gl st s.length hi,bound gl st s.length mx with
   |some l,some h,some m=>A.guard (Nat.beq sz hY&&decide (0<=l)&&decide (l<=h)&&decide (h<=m)&&decide (m<=s.length)) (K (st.cP d (.d (.list sz ((s.drop l.toNat).take (h.toNat-l.toNat))))))
   |_,_,_=>A.fail
  |none=>A.fail
noncomputable def RO(d:Nat)(f:Nat)(first:List O)(gI:List O)(st:ag)(K:ag->R):R:=
 match first,gI with
  |[],[]=>K (st.cP d (.d (.fn f)))
  |_,_=>
   let fp:=first.map λx=>cT (snap (aL gl st x))
   let cs:=gI.map λx=>cT (snap (aL gl st x));A.guard (fp.all (ea depth)&&cs.all (ea depth)) (K (st.cP d (.func f fp cs)))
noncomputable def RP(d:Option Nat)(f:O)(args:List O)(st:ag)(K:ag->R):R:=
 match aL gl st f with
  |.d (.fn f)=>kP A f (args.map (jK gl st)) st.s λr s'=>K ({st with s:=s'}.dI d r)
  |.func f a c=>kP A f (a++args.map (jK gl st)++c) st.s λr s'=>K ({st with s:=s'}.dI d r)
  |_=>A.fail
noncomputable def RQ(d:Nat)(s:Nat)(x:O)(sz:Nat)(b1:Nat)(st:ag)(K:ag->R):R:=
 hG A gl false false d s x sz b1 st K
noncomputable def RR(d:Nat)(str:Bool)(x:O)(st:ag)(K:ag->R):R:=
 match aL gl st x with
  |.aN _ _ len _ _=>A.guard (!str) (K (st.cP d (.d (.int .i64 len))))
  |.d (.str s)=>A.guard str (K (st.cP d (.d (.int .i64 s.length))))
  |v=>match hr v with
   |some (_,l)=>A.guard (!str) (K (st.cP d (.d (.int .i64 l.length))))
   |none=>A.fail
noncomputable def RS(d:Nat)(x:O)(i:Nat)(st:ag)(K:ag->R):R:=
 match aL gl st x with
  |.tuple vs=>A.guard (Nat.blt i vs.length) (K (st.cP d (vs.getD i .undef)))
  |_=>A.fail
noncomputable def RT(d:Nat)(st:ag)(K:ag->R):R:=
 K ({st with s:=st.s++[b9.map []]}.cP d (.map st.s.length))
noncomputable def RU(d:Nat)(ai:Bool)(ks:List Nat)(m:O)(k:O)(z:ah)(ok:Bool)(st:ag)(K:ag->R):R:=
 match hq (aL gl st k)with
  |none=>A.fail
  |some k=>A.guard (fe ai k&&(cA ks k.cells k.cells).isSome) <| match aL gl st m with
   |.d .hS=>K (st.cP d (cond ok (.tuple [cT z,.d (.bool false)]) (cT z)))
   |.d (.ln kl vl)=>match e3 ai ks k ((kl.zip vl).map λe=>(e.1,.d e.2)) 0 with
    |some none=>K (st.cP d (cond ok (.tuple [cT z,.d (.bool false)]) (cT z)))
    |some (some j)=>match vl[j]? with
     |some v=>K (st.cP d (cond ok (.tuple [.d v,.d (.bool true)]) (.d v)))
     |none=>A.fail
    |none=>A.fail
   |.map i=>match st.s.getD i .dead with
    |.map es=>match e3 ai ks k es 0 with
     |some none=>K (st.cP d (cond ok (.tuple [cT z,.d (.bool false)]) (cT z)))
     |some (some j)=>match es[j]? with
      |some e=>K (st.cP d (cond ok (.tuple [e.2,.d (.bool true)]) e.2))
      |none=>A.fail
     |none=>A.fail
    |_=>A.fail
   |_=>A.fail
noncomputable def RV(ai:Bool)(ks:List Nat)(m:O)(k:O)(x:O)(st:ag)(K:ag->R):R:=
 match aL gl st m,hq (aL gl st k)with
  |.map i,some k=>match st.s.getD i .dead with
   |.map es=>match e3 ai ks k es 0 with
    |some j=>A.guard (ea depth (cT (aL gl st x))&&fe ai k&&(cA ks k.cells k.cells).isSome) (K {st with s:=st.s.set i (.map (np es k (cT (aL gl st x)) j))})
    |none=>A.fail
   |_=>A.fail
  |_,_=>A.fail
noncomputable def RW(d:Nat)(lt:Bool)(x:O)(y:O)(st:ag)(K:ag->R):R:=
 match aL gl st x,aL gl st y with
  |.d (.int k a),.d (.int k' b)=>A.guard (decide (k=k')) (K (st.cP d (.d (.int k (cond (cond lt (decide (b<a)) (decide (a<b))) b a)))))
  |_,_=>A.fail
noncomputable def RX(d:Nat)(neg:Bool)(ho:Nat)(x:O)(st:ag)(K:ag->R):R:=
 match ho with
  |0=>match wJ (aL gl st x)with
   |some (_,_::_)=>K (st.cP d (.d (.bool neg)))
   |some (_,[])=>A.both (K (st.cP d (.d (.bool neg)))) (K (st.cP d (.d (.bool (!neg)))))
   |none=>A.fail
  |1=>match aL gl st x with
   |.map _=>K (st.cP d (.d (.bool neg)))
   |.d .hS=>K (st.cP d (.d (.bool (!neg))))
   |_=>A.fail
  |2=>match aL gl st x with
   |.func _ _ _|.d (.fn _)=>K (st.cP d (.d (.bool neg)))
   |.d .ll=>K (st.cP d (.d (.bool (!neg))))
   |_=>A.fail
  |4=>match aL gl st x with
   |.d (.iface _ _)|.d .hT=>K (st.cP d (.d (.bool neg)))
   |.d .iy=>K (st.cP d (.d (.bool (!neg))))
   |_=>A.fail
  |3=>match aL gl st x with
   |.ptr _ _|.d (.e1 _ _)=>K (st.cP d (.d (.bool neg)))
   |.d .dP=>K (st.cP d (.d (.bool (!neg))))
   |_=>A.fail
  |_=>A.fail
noncomputable def RY(d:Nat)(k:Nat)(x:O)(y:O)(st:ag)(K:ag->R):R:=
 match aL gl st x,aL gl st y with
  |.d (.str a),.d (.str b)=>match HC k a b with
   |some r=>K (st.cP d (.d r))
   |none=>A.fail
  |_,_=>A.fail
noncomputable def RZ(_a0:Option Nat)(st:ag)(K:ag->R):R:=
 A.fail
noncomputable def R0(d:Option Nat)(st:ag)(K:ag->R):R:=
 K (st.dI d .undef)
noncomputable def R1(d:Nat)(s:Nat)(z:Nat)(i:Nat)(x:O)(sz:Nat)(b1:Nat)(st:ag)(K:ag->R):R:=
 match st.aR s,s5 (st.aR z),st.aR i,hq (aL gl st x)with
  |.own ej l,some (dt,[_]),.d (.int _ n),some kQ=>
   A.guard (Nat.beq ej sz&&Nat.beq dt sz&&decide (n=l.length)&&Nat.ble (l.length+1) b1&&Nat.beq kQ.cells.length sz&&kQ.cells.all jA) (K ((st.cP s .undef).cP d (.own sz (l++[kQ]))))
  |_,_,_,_=>A.fail
noncomputable def R3(d:Nat)(s:Nat)(x:O)(sz:Nat)(b1:Nat)(st:ag)(K:ag->R):R:=
 hG A gl true false d s x sz b1 st K
noncomputable def R4(d:Nat)(s:Nat)(x:O)(sz:Nat)(b1:Nat)(st:ag)(K:ag->R):R:=
 hG A gl true true d s x sz b1 st K
noncomputable def R5(d:Nat)(sz:Nat)(xs:List O)(st:ag)(K:ag->R):R:=
  let vs:=xs.map λx=>cellsOf (gP (aL gl st x));A.guard (!xs.isEmpty&&vs.all λl=>Nat.beq l.length sz&&l.all kn) (K ({st with s:=st.s++[b9.box vs.flatten]}.cP d (.aN st.s.length 0 xs.length xs.length sz)))
noncomputable def R6(d:Nat)(sz:Nat)(z:List ah)(n:O)(b1:Nat)(st:ag)(K:ag->R):R:=
 match aL gl st n with
  |.d (.int _ n)=>A.guard (decide (0<=n)&&decide (n<=b1)) (K ({st with s:=st.s++[b9.box (List.replicate n.toNat z).flatten]}.cP d (.aN st.s.length 0 n.toNat n.toNat sz)))
  |_=>A.fail
noncomputable def R7(d:Option Nat)(x:O)(z:List ah)(st:ag)(K:ag->R):R:=
 match aL gl st x with
  |.aN i off len _ sz=>match st.s.getD i .dead with
   |.box cs=>A.guard (Nat.beq z.length sz&&Nat.ble (off+len*sz) cs.length) (K ({st with s:=st.s.set i (.box (putCells cs off (List.replicate len z).flatten))}.dI d (.tuple [])))
   |_=>A.fail
  |v=>match hr v with
   |some (_,[])=>K (st.dI d (.tuple []))
   |_=>A.fail
noncomputable def R8(d:Nat)(x:O)(i:O)(len:Nat)(sz:Nat)(ai:Bool)(st:ag)(K:ag->R):R:=
 match aL gl st i with
  |.d (.int _ n)=>
   let cs:=cellsOf (aL gl st x);A.guard (decide (0<=n)&&decide (n<len)&&wI (aL gl st x)&&Nat.ble (n.toNat*sz+sz) cs.length) (K (st.cP d (valOf cs (n.toNat*sz) sz ai)))
  |_=>A.fail
noncomputable def R9(d:Nat)(t:Nat)(e:Nat)(st:ag)(K:ag->R):R:=
 K ({st with s:=st.s++[b9.hU t e []]}.cP d (.ptr st.s.length 0))
noncomputable def Sb(d:Nat)(a:O)(n:Nat)(st:ag)(K:ag->R):R:=
 match aL gl st a with
  |.ptr i off=>match s7 i st.s off n with
   |some s'=>match s'.getD i .dead with
    |.box cs=>A.guard (Nat.ble (off+n) cs.length) (K ({st with s:=s'}.cP d (valOf cs off n true)))
    |_=>A.fail
   |none=>A.fail
  |_=>A.fail
noncomputable def Sc(d:Nat)(own:Bool)(x:O)(st:ag)(K:ag->R):R:=
 match aL gl st x with
  |.aN k off len cap sz=>match pk st.s (.aN k off len cap sz)with
   |some (y,k)=>K ({st with s:=st.s.set k .dead}.cP d (cond own (match y with|.list sz l=>iz sz l|y=>.d y) (.d y)))
   |none=>A.fail
  |v=>K ((kill st x).cP d v)
noncomputable def Sd(d:Nat)(s:Nat)(hY:Nat)(x:O)(st:ag)(K:ag->R):R:=
 match st.aR s,aL gl st x with
  |.own sz l,.d (.int _ n)=>A.guard (Nat.beq sz hY&&decide (0<=n)&&decide (n<=l.length)&&!l.isEmpty) (K ((st.cP s .undef).cP d (iz sz (l.drop n.toNat))))
  |_,_=>A.fail
noncomputable def Se(d:Nat)(x:O)(st:ag)(K:ag->R):R:=
 match x with
  |.t s=>match st.aR s with
   |.raw sz n cs=>K (({st with s:=st.s++[b9.box (jB cs)]}.cP s (.aN st.s.length 0 n n sz)).cP d (.aN st.s.length 0 n n sz))
   |.ptr i off=>match st.s.getD i .dead with
    |.box cs=>match qs i st.s 0 cs.length with
     |some s'=>K ({st with s:=s'}.cP d (.ptr i off))
     |none=>A.fail
    |_=>A.fail
   |v=>K (st.cP d (snap v))
  |_=>A.fail
noncomputable def Fz(i:I):ag->(ag->R)->R:=@I.casesOn (λ_=>ag->(ag->R)->R) i (Rj gl) Rk (Rl gl) (Rm A gl) (Rn A) (Ro A gl) Rp (Rq A gl) (Rr A gl) (Rs A gl) (Rt A gl) (Ru A gl) (Rv A gl) (Rw A gl) (Rx A gl) (Ry A gl) (Rz A gl) (RA A gl) (RB A gl) (RC A gl) (RD A gl) (RE A gl) (RF A gl) (RG A gl) (RH A gl) (RI A gl) (RJ A gl) (RL A gl) (RM A gl) (RN A gl) (RO A gl) (RP A gl) (RQ A gl) (RR A gl) (RS A gl) RT (RU A gl) (RV A gl) (RW A gl) (RX A gl) (RY A gl) (RZ A) R0 (R1 A gl) (R3 A gl) (R4 A gl) (R5 A gl) (R6 A gl) (R7 A gl) (R8 A gl) R9 (Sb A gl) (Sc A gl) (Sd A gl) (Se A)
theorem Sf(i:I):Fz A gl i=step A gl i:=by
 funext st K;cases i<;>(simp only[Fz,step,Rj,Rk,Rl,Rm,Rn,Ro,Rp,Rq,Rr,Rs,Rt,Ru,Rv,Rw,Rx,Ry,Rz,RA,RB,RC,RD,RE,RF,RG,RH,RI,RJ,RL,RM,RN,RO,RP,RQ,RR,RS,RT,RU,RV,RW,RX,RY,RZ,R0,R1,R3,R4,R5,R6,R7,R8,R9,Sb,Sc,Sd,Se,ag.akg];try rfl)
def Sg(s:Nat)(w:Bool)(d:Option Nat)(f:ag->(ag->R)->R)(st:ag)(K:ag->R):R:=match st.aR s with
 |.d (.bool b)=>cond (cond w b (!b)) (f st K) (K (st.dI d (.tuple [])))
 |.tuple []=>K (st.dI d (.tuple []))
 |_=>A.fail
noncomputable def Cp(g:cf):ag->(ag->R)->R:=@cf.casesOn (λ_=>ag->(ag->R)->R) g λFA i=>
 @Option.casesOn (Nat×Bool) (λ_=>ag->(ag->R)->R) FA (Fz A gl i) λp=>@Prod.casesOn Nat Bool (λ_=>ag->(ag->R)->R) p λs w=>Sg A s w i.dst (Fz A gl i)
theorem akh(g:cf)(st:ag)(K:ag->R):Cp A gl g st K=step1 A gl g st K:=by
 obtain⟨FA,i⟩:=g;cases FA with
 |none=>simp[Cp,step1,Sf]
 |some p=>
  obtain⟨s,w⟩:=p;simp[Cp,step1,Sf,Sg];rfl
theorem aki(g:cf)(l:List cf)(st:ag)(K:ag->R):steps A gl (g::l) st K=step1 A gl g st λst=>steps A gl l st K:=by
 obtain⟨FA,i⟩:=g;grind[steps,step1]
noncomputable def Ke(l:List cf):ag->(ag->R)->R:=@List.rec cf (λ_=>ag->(ag->R)->R) (λst K=>K st) (λg _ ih st K=>Cp A gl g st λst=>ih st K) l
theorem Si:∀(l:List cf) (st:ag) (K:ag->R),Ke A gl l st K=steps A gl l st K
 |[],_,_=>rfl
 |g::l,st,K=>by
  rw[aki];show Cp A gl g st (λst=>Ke A gl l st K)=_;rw[akh];congr 1;funext st;exact Si l st K
def Sj(oV:ag->(aB->ag->R)->R)(K:aB->ag->R)(x:aB)(st:ag):R:=match x with
 |.normal=>oV st K
 |x=>K x st
def Kf(c:O)(lQ oV:ag->(aB->ag->R)->R)(st:ag)(K:aB->ag->R):R:=match aL gl st c with
 |.d (.bool t)=>cond t (lQ st K) (oV st K)
 |_=>A.fail
def Sk(i:Nat)(K:aB->ag->R)(x:aB)(st:ag):R:=match x with
 |.exit j=>cond (Nat.beq j i) (K .normal st) (K (.exit j) st)
 |x=>K x st
def Sl(ts bs:List Nat)(n:Nat)(K:aB->ag->R)(rec:ag->R)(x:aB)(st:ag):R:=match x with
 |.normal=>forget A n ts bs st rec
 |x=>K x st
def Sm(x:O)(ps:List Nat)(mE ia:ag->(aB->ag->R)->R)(st:ag)(K:aB->ag->R):R:=match aL gl st x with
 |.func g [] gI=>pq A gl mE ia ps g gI st K
 |.d (.fn g)=>pq A gl mE ia ps g [] st K
 |_=>A.fail
noncomputable def pR(c:eG):ag->(aB->ag->R)->R:=@eG.rec (λ_=>ag->(aB->ag->R)->R)
 (λst K=>K .normal st)
 (λl st K=>Ke A gl l st (K .normal))
 (λl dy st K=>qv A gl l dy st (K .normal))
 (λ_ _=>A.fail)
 (λ_ _ lQ oV st K=>lQ st (Sj oV K))
 (λc _ _ lQ oV=>Kf A gl c lQ oV)
 (λi _ oV st K=>oV st (Sk i K))
 (λts bs _ oV st K=>forget A st.s.length ts bs st λst0=>A.fix (λcI rec=>oV cI (Sl A ts bs cI.s.length K rec)) st0)
 (λx ps _ _ lQ oV=>Sm A gl x ps lQ oV)
 (λi st K=>K (.exit i) st)
 (λst K=>K .ret st) c
theorem akj:∀(c:eG) (st:ag) (K:aB->ag->R),pR A gl c st K=run A gl c st K:=by
 intro c;induction c with
 |skip=>intro st K;rfl
 |ops l=>intro st K;exact Si A gl l st _
 |any l dy=>intro st K;rfl
 |bad=>intro st K;rfl
 |seq a b i_a jr=>
  intro st K;show pR A gl a st (Sj (pR A gl b) K)=run A gl a st _;rw[i_a];congr 1;funext x st;cases x<;>first|rfl|exact jr st K
 |cond c a b i_a jr=>
  intro st K;show Kf A gl c (pR A gl a) (pR A gl b) st K=_;grind[Kf,run]
 |block i b ih=>
  intro st K;show pR A gl b st (Sk i K)=run A gl b st _;rw[ih];congr 1
 |loop ts bs b ih=>
  intro st K;show forget A st.s.length ts bs st (λst0=>A.fix (λcI rec=>pR A gl b cI (Sl A ts bs cI.s.length K rec)) st0)=_;simp[run,ih];rfl
 |ia x ps a b i_a jr=>
  intro st K;show Sm A gl x ps (pR A gl a) (pR A gl b) st K=_;have bp:pR A gl a=run A gl a:=axZ;have au:pR A gl b=run A gl b:=axZ;rw[bp,au];rfl
 |exit i=>intro st K;rfl
 |ret=>intro st K;rfl
def akk(res:List oB)(K:ah->aU->R)(n:Nat)(x:aB)(st:ag):R:=match x with
 |.exit _=>A.fail
 |_=>match qw st res with
  |some r=>A.guard (ea depth r) (K r (gc n r st.s))
  |none=>A.fail
noncomputable def FB(fn:aX)(args:List ah)(s:aU)(K:ah->aU->R):R:=
 pR A gl fn.code ⟨rI args 0,λ_=>none,s⟩ (akk A fn.res K s.length)
theorem akl(fn:aX)(args:List ah)(s:aU)(K:ah->aU->R):FB A gl fn args s K=lS A gl fn args s K:=by
 unfold FB lS;rw[akj];congr 1
end
noncomputable def FC(n:Nat):(ag->(ag->Out)->Out)->ag->Out:=@Nat.rec (λ_=>(ag->(ag->Out)->Out)->ag->Out) (λ_ _=>none) (λ_ ih F st=>F st (ih F)) n
theorem Sn:∀(n:Nat) (F:ag->(ag->Out)->Out) (st:ag),FC n F st=vA n F st
 |0,_,_=>rfl
 |n+1,F,st=>by
  show F st (FC n F)=F st _;congr 1;funext st;exact Sn n F st
def akm(b:Bool)(p:Out):Out:=cond b p none
def akn(call:Nat->List ah->aU->Out)(f:Nat)(args:List ah)(s:aU)(K:ah->aU->Out):Out:=match call f args s with
 |some (r,s')=>K r s'
 |none=>none
def ako(p q:Out):Out:=match p,q with
 |some a,some b=>cond (Cc a b) (some a) none
 |_,_=>none
def akp(tab:Nat->Option aX)(g:Nat)(k:aX->Out):Out:=match tab g with
 |some cM=>k cM
 |none=>none
noncomputable def FD(tab:Nat->Option aX)(call:Nat->List ah->aU->Out)(fuel:Nat):mB Out:=⟨none,akm,akn call,FC fuel,ako,akp tab⟩
theorem akq(tab:Nat->Option aX)(call:Nat->List ah->aU->Out)(fuel:Nat):FD tab call fuel=gg tab call fuel:=by
 have h:FC fuel=λF st=>vA fuel F st:=by
  grind[Sn]
 unfold FD;rw[h];rfl
noncomputable def oe(ext:Nat->List ah->aU->Out)(tab:Nat->Option aX)(gl:Nat->List D)(fuel n:Nat):Nat->List ah->aU->Out:=
 @Nat.rec (λ_=>Nat->List ah->aU->Out) (λ_ _ _=>none) (λ_ ih f args s=>match ext f args s with
  |some r=>some r
  |none=>match tab f with
   |some cM=>FB (FD tab ih fuel) gl cM args s λr s'=>some (r,s')
   |none=>none) n
theorem Sp(ext:Nat->List ah->aU->Out)(tab:Nat->Option aX)(gl:Nat->List D)(fuel:Nat):∀n,oe ext tab gl fuel n=Ci ext tab gl fuel n
 |0=>rfl
 |n+1=>by
  funext f args s;show(match ext f args s with
   |some r=>some r
   |none=>match tab f with
    |some cM=>FB (FD tab (oe ext tab gl fuel n) fuel) gl cM args s λr s'=>some (r,s')
    |none=>none)=_
  rw[Sp ext tab gl fuel n,akq];simp[akl];rfl
def xG:List ah->List ah->Bool
 |[],[]=>true
 |a::l,b::m=>sr depth a b&&xG l m
 |_,_=>false
def sv:aU->aU->Bool
 |[],[]=>true
 |a::l,b::m=>zM a b&&sv l m
 |_,_=>false
theorem Sq:∀{a b:List ah},xG a b=true->a=b
 |[],[],_=>rfl
 |[],_::_,h=>by grind[xG]
 |_::_,[],h=>by grind[xG]
 |a::l,b::m,h=>by
  simp[xG,aAc]at h;rw[Ce _ _ _ h.1,Sq h.2]
theorem Sr:∀{a b:aU},sv a b=true->a=b
 |[],[],_=>rfl
 |[],_::_,h=>by grind[sv]
 |_::_,[],h=>by grind[sv]
 |a::l,b::m,h=>by
  simp[sv,aAc]at h;rw[QW _ _ h.1,Sr h.2]
def pS(f:Nat)(args:List ah)(s:aU)(r:ah)(s':aU)(base:Nat->List ah->aU->Out):Nat->List ah->aU->Out:=λf0 zP fq=>
 cond (Nat.beq f0 f) (cond (xG zP args) (cond (sv fq s) (some (r,s')) (base f0 zP fq)) (base f0 zP fq)) (base f0 zP fq)
theorem sw{P:Program}{gl:Nat->List D}{f:Nat}{args:List ah}{s:aU}{r:ah}{s':aU}{base:Nat->List ah->aU->Out}(au:gX P gl base)(h:bG P gl f args s r s'):gX P gl (pS f args s r s' base):=by
 intro f0 zP fq r0 P6 wb;unfold pS at wb;cases h1:Nat.beq f0 f with
 |false=>rw[h1]at wb;exact au _ _ _ _ _ wb
 |true=>
  cases sh:xG zP args with
  |false=>rw[h1,sh]at wb;exact au _ _ _ _ _ wb
  |true=>
   cases av:sv fq s with
   |false=>rw[h1,sh,av]at wb;exact au _ _ _ _ _ wb
   |true=>
    rw[h1,sh,av]at wb;grind[Nat.eq_of_beq_eq_true,Sq,Sr]
def Kg(P:Program):List (Nat×aX)->Prop
 |[]=>True
 |p::l=>a7 P p.1 p.2/\Kg P l
def FE(P:Program):List (List (Nat×aX))->Prop
 |[]=>True
 |l::m=>Kg P l/\FE P m
def Cq(f:Nat):List (Nat×aX)->Option aX
 |[]=>none
 |p::l=>cond (Nat.beq f p.1) (some p.2) (Cq f l)
def FF(f:Nat):Nat->List (List (Nat×aX))->Option aX
 |_,[]=>none
 |0,l::_=>Cq f l
 |n+1,_::m=>FF f n m
theorem Ss{P:Program}{f:Nat}{cM:aX}:∀{l:List (Nat×aX)},Kg P l->Cq f l=some cM->a7 P f cM
 |[],_,h=>by grind[Cq]
 |p::l,bp,h=>by
  simp[Cq]at h;cases au:Nat.beq f p.1 with
  |true=>
   rw[au]at h;simp at h;rw[<-h,aAn au];exact bp.1
  |false=>rw[au]at h;exact Ss bp.2 h
theorem St{P:Program}{f:Nat}{cM:aX}:∀{n:Nat} {m:List (List (Nat×aX))},FE P m->FF f n m=some cM->a7 P f cM
 |_,[],_,h=>by grind[FF]
 |0,l::m,bp,h=>Ss bp.1 h
 |n+1,l::m,bp,h=>St (n:=n) (m:=m) bp.2 h
def Sv(m:List (List (Nat×aX)))(f:Nat):Option aX:=FF f (f/16) m
theorem akr{P:Program}{m:List (List (Nat×aX))}(h:FE P m):vB P (Sv m):=λ_ _ bh=>St h bh
theorem pT{P:Program}{gl:Nat->List D}{tab:Nat->Option aX}{ext:Nat->List ah->aU->Out}{fuel:Nat}(he:gX P gl ext)(aE:vB P tab)(n:Nat):gX P gl (oe ext tab gl fuel n):=by
 grind[Sp,ajX]
def aAH:=@Go.run_underlying
def aBB:=@Go.Lib.cell_of_heap
def aC4:=@Go.Lib.byteCells_length
def aCL:=@Go.Proofs.Body.n169_ntmps
def aC5:=@Go.Proofs.Any.unsafeString_none
theorem azQ(h:p:=by have oG:w.drew.heap[g]?=some (.cells cur (ρ.t 5) fz):=aC;grind[World.shape?]):p:=h
open Go.Shelf Go.RowKit Go.Proofs
section
variable {P:Program}{w:World}
theorem aks(t u ty e:TypeId)(i:TypeInfo)(aE:P.underlying t=some (.slice e))(hu:P.underlying u=some .string)(hi:P.info? e=some i)(aO:i.zero=some (.int .u8 0))
  (w4:i.size=1) (Cr:i.bytes=1) (v:Value) (n:Nat) (xs:List Value) (ny:w.ownsRowF 0 e 1 v n xs) (s:ByteArray) (Cs:n+s.size<=maxLen) (FG:n+s.size<=140737488355328):
  ∃v' w',(Builtin.append_ #[t,u] ty #[v,.string s]).run P w=.ok v' w'/\w'.ownsRowF 0 e 1 v' (n+s.size) (xs++Lib.strCells s)/\w.grownBy w' v.ownBlock/\(∀g,v'.ownBlock=some g->v.ownBlock=some g\/w.heap.size<=g)/\
   ∀g cur fz,v.ownBlock=some g->w.heap[g]?=some (.cells cur e fz)->∃zQ pE,w'.heap[g]?=some (.cells zQ e pE)/\zQ.size=cur.size:=by
 obtain⟨v',w',h1,sh,av,-⟩:=Lib.run_append_own_stringF w 0 t u ty e i aE hu hi aO w4 Cr v n xs ny s Cs FG (aAa _);refine⟨v',w',h1,sh,av,?_⟩;rcases ny.2 with⟨rfl,rfl⟩|⟨g,cap,cur,fz,rfl,_,aC,aDm,Ih,akt,gU,aku⟩
 .obtain⟨v2,bW,k1,k2,-,-⟩:=Lib.run_append_own_stringF w w.heap.size t u ty e i aE hu hi aO w4 Cr (.slice none 0 0) 0 xs ⟨ny.1,.inl ⟨rfl,rfl⟩⟩ s Cs FG (aAd _);rw[h1]at k1;injection k1 with k1 Ir
  refine⟨λk aq=> ?_,λg cur fz hv _=>by grind[Value.ownBlock]⟩;rcases k2.2 with⟨rfl,_⟩|⟨n8,_,_,_,rfl,au,_⟩
  all_goals grind[Value.ownBlock]
 .by_cases tC:n+s.size<=cap
  .have ax:=Lib.run_append_room_stringF (P:=P) w t u ty e i aE hu hi w4 g n cap cur fz aC axW s tC axW;rw[h1]at ax;injection ax with ax gS
   subst ax;refine⟨λk aq=>.inl aq,λg2 akv qG hv fD=> ?_⟩;simp[Value.ownBlock,aAe]at hv;subst hv;rw[aC]at fD;simp at fD;obtain⟨rfl,_,rfl⟩:=fD;subst gS;refine⟨_,_,setRow_heap w g cur _ e _ aC,?_⟩;grind[Lib.strCells_length]
  .have holds:=ny.cells (g:=g) rfl;have ax:=Lib.run_append_grow_string (P:=P) w t u ty e i (.int .u8 0) aE hu hi aO ⟨g,0,none⟩ n cap xs axZ holds s axW axW (by rw[Cr];exact growslice_fits axW axW);rw[h1]at ax;injection ax with ax gS
   subst ax;refine⟨λk aq=> ?_,λg2 akv qG hv fD=> ?_⟩
   .grind[Value.ownBlock]
   .subst gS;have aA:=(aAU.1 fD).1;exact⟨_,_,(Lib.alloc_old w.drew _ g2 aA).trans fD,rfl⟩
def Kh(v:Value)(e:TypeId)(w w':World):Prop:=∀g cur fz,v.ownBlock=some g->w.heap[g]?=some (.cells cur e fz)->∃zQ pE,w'.heap[g]?=some (.cells zQ e pE)/\zQ.size=cur.size
theorem akw{ops:Array Oper}{rest:List Oper}{o:Oper}{a:Act}{Q:Exit->Act->World->Prop}(ly:o.guard=none)(aN x:Operand)(t u:TypeId)
  (bd:o.op=.call {callee:=.builtin .append,args:= #[aN,x],argTypes:= #[t,u]})
  (e:TypeId) (i:TypeInfo) (aE:P.underlying t=some (.slice e)) (hu:P.underlying u=some .string) (hi:P.info? e=some i) (aO:i.zero=some (.int .u8 0)) (w4:i.size=1) (Cr:i.bytes=1)
  (v:Value) (n:Nat) (xs:List Value) (hs:a.eval aN=v) (ny:w.ownsRowF 0 e 1 v n xs) (s:ByteArray) (ak:a.eval x=.string s) (Cs:n+s.size<=maxLen) (FG:n+s.size<=140737488355328)
  (h:∀v' w',w'.ownsRowF 0 e 1 v' (n+s.size) (xs++Lib.strCells s)->w.grownBy w' v.ownBlock->(∀g,v'.ownBlock=some g->v.ownBlock=some g\/w.heap.size<=g)->Kh v e w w'->
   wpList P ops Q rest (a.put o.dst v') w'):wpList P ops Q (o::rest) a w:=by
 refine wpList_plain ly λK ao=> ?_;obtain⟨v',w',ax,sh,av,aW,bL⟩:=aks (P:=P) (w:=w) t u o.type e i aE hu hi aO w4 Cr v n xs ny s Cs FG;unfold Oper.wp execOp;simp[bd,resolve,invoke,builtin,aAm,aAv,aAo,aBU,aAP,aBK,hs,ak,ax];exact ao _ _ (h v' w' sh av aW bL)
end
def pU(t e b:Nat)(p v:Value)(bs:List Value)(w:World):Prop:=
 w.heap[b]?=some (.cells #[p,v] t (0,0))/\(p=.pointer none\/p=.pointer (some ⟨b,0,none⟩))/\w.ownsRowF 0 e 1 v bs.length bs/\v.ownBlock≠some b
structure Ct(b:Nat)(v:Value)(w w':World):Prop where
 os:w'.os=w.os
 out:w'.output=w.output
 size:w.heap.size<=w'.heap.size
 block:∀k,k<w.heap.size->k≠b->v.ownBlock≠some k->w'.heap[k]?=w.heap[k]?
section
variable {P:Program}{ρ:Ren}{w:World}
theorem akx(L:Lays.n240 P ρ)(X:Builder.X72 P ρ){b:Nat}{p v:Value}{bs:List Value}(h:pU (ρ.t 72) (ρ.t 5) b p v bs w):
  Calls P (ρ.f 240) #[.pointer (some ⟨b,0,none⟩)] w λe w'=>e=.returned (.tuple #[])/\pU (ρ.t 72) (ρ.t 5) b (.pointer (some ⟨b,0,none⟩)) v bs w'/\w'.os=w.os/\w'.output=w.output/\w'.heap.size=w.heap.size/\∀k,k≠b->w'.heap[k]?=w.heap[k]?:=by
 obtain⟨h1,sh,av,aW⟩:=h;have gx:Lib.BuilderAtF (ρ.t 72) (ρ.t 5) 0 b p bs w:=⟨aAa _,v,h1,av,aW⟩;rcases sh with rfl|rfl
 .refine(Any.Builder_copyCheck_fresh L X b w gx.cell0 gx.shape gx.frozen0).mono ?_;rintro e w' ⟨rfl,rfl⟩;obtain⟨_,v',g1,g2,g3⟩:=gx.used (.pointer (some ⟨b,0,none⟩));have hv:v'=v:=by
   grind[World.setCell]
  subst hv;exact⟨rfl,⟨g1,.inr rfl,g2,g3⟩,rfl,rfl,axX,λk aq=>Below.heap_setCell _ _ _ _ (λe=>aq axW)⟩
 .refine(Any.Builder_copyCheck_used L X b w gx.cell0).mono ?_;rintro e w' ⟨rfl,rfl⟩;exact⟨rfl,⟨h1,.inr rfl,av,aW⟩,rfl,rfl,rfl,λ_ _=>rfl⟩
theorem aky(L:Lays.n166 P ρ)(X:Builder.Extra P ρ){b:Nat}{p v:Value}{bs:List Value}(s:ByteArray)(h:pU (ρ.t 72) (ρ.t 5) b p v bs w)(hlen:bs.length+s.size<=140737488355328):
  Calls P (ρ.f 166) #[.pointer (some ⟨b,0,none⟩),.string s] w λe w'=>e=.returned (.tuple #[.int .i64 s.size,.nilIface])/\Ct b v w w'/\
   ∃v',pU (ρ.t 72) (ρ.t 5) b (.pointer (some ⟨b,0,none⟩)) v' (bs++Lib.strCells s) w'/\(∀g,v'.ownBlock=some g->v.ownBlock=some g\/w.heap.size<=g)/\
   Kh v (ρ.t 5) w w':=by
 obtain⟨i0,hi,r1,r2,gw⟩:=info_parts X.infoByte;have mixed:=L.mixed;have t72:=L.t72;have a72:=L.a72;have z72:=L.z72;have v72:=L.v72;have FH:=aAH L.t72;have t70:=L.t70;have a70:=L.a70;have z70:=L.z70;have v70:=L.v70;have FI:=aAH L.t70;have t37:=L.t37;have a37:=L.a37;have z37:=L.z37;have v37:=L.v37;have FJ:=aAH L.t37;have t3:=L.t3;have a3:=L.a3;have z3:=L.z3;have v3:=L.v3;have gd:=aAH L.t3;have t9:=L.t9;have a9:=L.a9;have z9:=L.z9;have v9:=L.v9;have nF:=aAH L.t9;have t4:=L.t4;have a4:=L.a4;have z4:=L.z4;have v4:=L.v4;have hK:=aAH L.t4;have t164:=L.t164;have a164:=L.a164;have z164:=L.z164;have v164:=L.v164;have avV:=aAH L.t164;have t5:=X.t5;have a5:=X.a5;have z5:=X.z5;have v5:=X.v5;have gY:=aAH X.t5;have avW:∀args w,(callFunc (ρ.f 240) args).run P w=.ok (.enter (ρ.f 240) args) w:=enters_of L.f240 axV rfl;go_enter L.f166,Body.n166_ntmps ρ;go_wp2_with (refine(akx {L with} X.toX72 h).mono ?_);rintro e w1 ⟨rfl,⟨j8,_,ny,cB⟩,akz,akA,cg,fQ⟩;have c0:w1.cell? ⟨b,0,none⟩=some (.pointer (some ⟨b,0,none⟩)):=by rw[aBB j8];rfl
 have c1:w1.cell? ⟨b,1,none⟩=some v:=by rw[aBB j8];rfl
 go_wp2_with (refine akw rfl _ _ (ρ.t 37) (ρ.t 9) rfl (ρ.t 5) i0 L.t37 L.t9 hi r1 r2 gw _ _ _ rfl ny s rfl ?c3 ?c4 ?_)
 case c3=>grind[maxLen]
 case c4=>omega
 intro v' bW Sw Ki jl EK;have aA:b<w1.heap.size:=axZ;have dY:bW.heap[b]?=some (.cells #[.pointer (some ⟨b,0,none⟩),v] (ρ.t 72) (0,0)):=by
  grind[World.grownBy.block]
 have d0:bW.cell? ⟨b,0,none⟩=some (.pointer (some ⟨b,0,none⟩)):=by rw[aBB dY];rfl
 have d1:bW.cell? ⟨b,1,none⟩=some v:=by rw[aBB dY];rfl
 have f1:=Lib.frozen_of_heap dY 1;obtain⟨FK,n',cap,rfl⟩:∃FK n' cap,v'=.slice FK n' cap:=by
  rcases Sw.2 with⟨hv,_⟩|⟨g,cap,cur,fz,hv,_⟩
  .simp_all
  simp_all
 have jF:=Lib.BuilderAtF.put (T:=(ρ.t 72)) (e:=(ρ.t 5)) (aAa b) dY (bs':=bs++Lib.strCells s) (by simpa [Lib.strCells_length]using Sw) X.neB5;go_wp2;go_ret2;refine⟨rfl,⟨?_,?_,?_,?_⟩,.slice FK n' cap,?_,?_,?_⟩
 .show bW.os=w.os;rw[Ki.os,akz]
 .show bW.output=w.output;rw[Ki.output,akA]
 .have:=Ki.size;simp_all
 .grind[Below.heap_setCell,World.grownBy.block]
 .obtain⟨_,v2,q1,bF,cE⟩:=jF;have hv:v2=.slice FK n' cap:=by
   grind[World.setCell]
  subst hv;exact⟨q1,.inr rfl,bF,cE⟩
 .omega
 .intro g cur fz hv aC;have BM:g≠b:=λe=>cB axY;obtain⟨zQ,pE,q1,bF⟩:=EK g cur fz hv ((fQ g BM).trans aC);grind[Below.heap_setCell]
def Kj(v:Value)(n:Nat)(w w':World):Prop:=
 w'=w.drew\/(∃a e,w'=w.drew.alloc (.view a e))\/∃g c,v=.slice (some ⟨g,0,none⟩) n c/\n≠0/\w'=w.drew.freeze ⟨g,0,none⟩ n
theorem akB(L:Lays.n169 P ρ)(X:Builder.Extra P ρ){b:Nat}{p v:Value}{l:List UInt8}(h:pU (ρ.t 72) (ρ.t 5) b p v (Lib.byteCells l) w)(wb:l≠[]):
  Calls P (ρ.f 169) #[.pointer (some ⟨b,0,none⟩)] w λe w'=>e=.returned (.string ⟨l.toArray⟩)/\Kj v l.length w w':=by
 obtain⟨j8,_,ny,cB⟩:=h;have pH:l.length≠0:=axY;rw[aC4]at ny;obtain⟨g,cap,cur,fz,rfl,aC,aDm,Ih,akt,gU,aku⟩:∃g cap cur fz,v=.slice (some ⟨g,0,none⟩) l.length cap/\w.heap[g]?=some (.cells cur (ρ.t 5) fz)/\fz.2<=l.length*1/\l.length<=cap/\cap<=maxLen/\cur.size=cap*1/\cur.toList.take (l.length*1)=Lib.byteCells l:=by
  rcases ny.2 with⟨_,aO⟩|⟨g,cap,cur,fz,hv,_,r⟩
  all_goals grind
 have c1:w.drew.cell? ⟨b,1,none⟩=some (.slice (some ⟨g,0,none⟩) l.length cap):=by
  have:w.drew.heap[b]?=some (.cells #[p,.slice (some ⟨g,0,none⟩) l.length cap] (ρ.t 72) (0,0)):=j8;rw[aBB this];rfl
 have Kk:(Builtin.unsafeSliceData_ #[(ρ.t 37)] (ρ.t 127) #[.slice (some ⟨g,0,none⟩) l.length cap]).run P w.drew=.ok (.pointer (some ⟨g,0,none⟩)) w.drew:=
  Lib.run_unsafeSliceData_row _ _ _ _ _ _ axW
 have Kl:=by
  refine Lib.run_unsafeString_row w.drew (ρ.t 127) (ρ.t 3) (ρ.t 9) (ρ.t 5) L.t127 X.cellsByte g cur.size azQ l wb axW (by grind[maxLen]) ?_;intro j x ak;have:=ny.cells (g:=g) rfl j (.int .u8 x.toNat) (by grind[Lib.byteCells]);simp_all
 have mixed:=L.mixed;have t72:=L.t72;have a72:=L.a72;have z72:=L.z72;have v72:=L.v72;have FH:=aAH L.t72;have t70:=L.t70;have a70:=L.a70;have z70:=L.z70;have v70:=L.v70;have FI:=aAH L.t70;have t37:=L.t37;have a37:=L.a37;have z37:=L.z37;have v37:=L.v37;have FJ:=aAH L.t37;have t127:=L.t127;have a127:=L.a127;have z127:=L.z127;have v127:=L.v127;have Km:=aAH L.t127;have t3:=L.t3;have a3:=L.a3;have z3:=L.z3;have v3:=L.v3;have gd:=aAH L.t3;have t9:=L.t9;have a9:=L.a9;have z9:=L.z9;have v9:=L.v9;have nF:=aAH L.t9;have t5:=X.t5;have a5:=X.a5;have z5:=X.z5;have v5:=X.v5;have gY:=aAH X.t5;go_enter L.f169,aCL ρ;go_wp2;go_region_o;all_goals (go_wp2;go_ret;exact⟨rfl,.inr (.inr ⟨g,cap,rfl,pH,rfl⟩)⟩)
theorem akC(L:Lays.n169 P ρ)(X:Builder.Extra P ρ){b:Nat}{p:Value}(j8:w.heap[b]?=some (.cells #[p,.slice none 0 0] (ρ.t 72) (0,0))):
  Calls P (ρ.f 169) #[.pointer (some ⟨b,0,none⟩)] w λe w'=>e=.returned (.string ⟨#[]⟩)/\w'=w.drew:=by
 have Kl:=aC5 L X;have c1:w.drew.cell? ⟨b,1,none⟩=some (.slice none 0 0):=by
  have:w.drew.heap[b]?=some (.cells #[p,.slice none 0 0] (ρ.t 72) (0,0)):=j8;rw[aBB this];rfl
 have Kk:(Builtin.unsafeSliceData_ #[(ρ.t 37)] (ρ.t 127) #[.slice none 0 0]).run P w.drew=.ok (.pointer none) w.drew:=rfl;have mixed:=L.mixed;have t72:=L.t72;have a72:=L.a72;have z72:=L.z72;have v72:=L.v72;have FH:=aAH L.t72;have t70:=L.t70;have a70:=L.a70;have z70:=L.z70;have v70:=L.v70;have FI:=aAH L.t70;have t37:=L.t37;have a37:=L.a37;have z37:=L.z37;have v37:=L.v37;have FJ:=aAH L.t37;have t127:=L.t127;have a127:=L.a127;have z127:=L.z127;have v127:=L.v127;have Km:=aAH L.t127;have t3:=L.t3;have a3:=L.a3;have z3:=L.z3;have v3:=L.v3;have gd:=aAH L.t3;have t9:=L.t9;have a9:=L.a9;have z9:=L.z9;have v9:=L.v9;have nF:=aAH L.t9;have t5:=X.t5;have a5:=X.a5;have z5:=X.z5;have v5:=X.v5;have gY:=aAH X.t5;go_enter L.f169,aCL ρ;go_wp2;go_region_o;all_goals (go_wp2;go_ret;exact⟨rfl,rfl⟩)
theorem akD(L:Lays.n169 P ρ)(X:Builder.Extra P ρ){b g:Nat}{p:Value}{cur:Array Value}{fz:Nat×Nat}(j8:w.heap[b]?=some (.cells #[p,.slice (some ⟨g,0,none⟩) 0 0] (ρ.t 72) (0,0)))(aC:w.heap[g]?=some (.cells cur (ρ.t 5) fz)):
  Calls P (ρ.f 169) #[.pointer (some ⟨b,0,none⟩)] w λe w'=>e=.returned (.string ⟨#[]⟩)/\∃a e,w'=w.drew.alloc (.view a e):=by
 have Kl:=aC5 L X;have aA:b<w.heap.size:=axZ;have c1:w.drew.cell? ⟨b,1,none⟩=some (.slice (some ⟨g,0,none⟩) 0 0):=by
  have:w.drew.heap[b]?=some (.cells #[p,.slice (some ⟨g,0,none⟩) 0 0] (ρ.t 72) (0,0)):=j8;rw[aBB this];rfl
 have Kk:(Builtin.unsafeSliceData_ #[(ρ.t 37)] (ρ.t 127) #[.slice (some ⟨g,0,none⟩) 0 0]).run P w.drew=.ok (.pointer (some ⟨w.drew.heap.size,0,none⟩)) (w.drew.alloc (.view ⟨g,0,none⟩ (ρ.t 5))):=
  Lib.run_unsafeSliceData_zero w.drew _ _ (ρ.t 5) L.t127 ⟨g,0,none⟩ 0 ((ρ.t 5),cur.size) azQ
 have c2:(w.drew.alloc (.view ⟨g,0,none⟩ (ρ.t 5))).cell? ⟨b,1,none⟩=some (.slice (some ⟨g,0,none⟩) 0 0):=by
  have:(w.drew.alloc (.view ⟨g,0,none⟩ (ρ.t 5))).heap[b]?=_:=(Lib.alloc_old w.drew _ b aA).trans j8;rw[aBB this];rfl
 have c3:=c2;have c0:w.cell? ⟨b,1,none⟩=some (.slice (some ⟨g,0,none⟩) 0 0):=c1;have mixed:=L.mixed;have t72:=L.t72;have a72:=L.a72;have z72:=L.z72;have v72:=L.v72;have FH:=aAH L.t72;have t70:=L.t70;have a70:=L.a70;have z70:=L.z70;have v70:=L.v70;have FI:=aAH L.t70;have t37:=L.t37;have a37:=L.a37;have z37:=L.z37;have v37:=L.v37;have FJ:=aAH L.t37;have t127:=L.t127;have a127:=L.a127;have z127:=L.z127;have v127:=L.v127;have Km:=aAH L.t127;have t3:=L.t3;have a3:=L.a3;have z3:=L.z3;have v3:=L.v3;have gd:=aAH L.t3;have t9:=L.t9;have a9:=L.a9;have z9:=L.z9;have v9:=L.v9;have nF:=aAH L.t9;have t5:=X.t5;have a5:=X.a5;have z5:=X.z5;have v5:=X.v5;have gY:=aAH X.t5;go_enter L.f169,aCL ρ;go_wp2;go_region_o;all_goals (go_wp2;go_ret;exact⟨rfl,_,_,rfl⟩)
theorem akE(L:Lays.n169 P ρ)(X:Builder.Extra P ρ){b g cap:Nat}{p:Value}(vD:cap≠0)(j8:w.heap[b]?=some (.cells #[p,.slice (some ⟨g,0,none⟩) 0 cap] (ρ.t 72) (0,0))):
  Calls P (ρ.f 169) #[.pointer (some ⟨b,0,none⟩)] w λe w'=>e=.returned (.string ⟨#[]⟩)/\w'=w.drew:=by
 have Kl:=aC5 L X;have c1:w.drew.cell? ⟨b,1,none⟩=some (.slice (some ⟨g,0,none⟩) 0 cap):=by
  have:w.drew.heap[b]?=some (.cells #[p,.slice (some ⟨g,0,none⟩) 0 cap] (ρ.t 72) (0,0)):=j8;rw[aBB this];rfl
 have Kk:(Builtin.unsafeSliceData_ #[(ρ.t 37)] (ρ.t 127) #[.slice (some ⟨g,0,none⟩) 0 cap]).run P w.drew=.ok (.pointer (some ⟨g,0,none⟩)) w.drew:=
  Lib.run_unsafeSliceData_row _ _ _ _ _ _ vD
 have mixed:=L.mixed;have t72:=L.t72;have a72:=L.a72;have z72:=L.z72;have v72:=L.v72;have FH:=aAH L.t72;have t70:=L.t70;have a70:=L.a70;have z70:=L.z70;have v70:=L.v70;have FI:=aAH L.t70;have t37:=L.t37;have a37:=L.a37;have z37:=L.z37;have v37:=L.v37;have FJ:=aAH L.t37;have t127:=L.t127;have a127:=L.a127;have z127:=L.z127;have v127:=L.v127;have Km:=aAH L.t127;have t3:=L.t3;have a3:=L.a3;have z3:=L.z3;have v3:=L.v3;have gd:=aAH L.t3;have t9:=L.t9;have a9:=L.a9;have z9:=L.z9;have v9:=L.v9;have nF:=aAH L.t9;have t5:=X.t5;have a5:=X.a5;have z5:=X.z5;have v5:=X.v5;have gY:=aAH X.t5;go_enter L.f169,aCL ρ;go_wp2;go_region_o;all_goals (go_wp2;go_ret;exact⟨rfl,rfl⟩)
theorem akF(L:Lays.n169 P ρ)(X:Builder.Extra P ρ){b:Nat}{p v:Value}{l:List UInt8}(h:pU (ρ.t 72) (ρ.t 5) b p v (Lib.byteCells l) w):
  Calls P (ρ.f 169) #[.pointer (some ⟨b,0,none⟩)] w λe w'=>e=.returned (.string ⟨l.toArray⟩)/\Kj v l.length w w':=by
 cases l with
 |cons x r=>grind[akB]
 |nil=>
  obtain⟨j8,_,ny,cB⟩:=h;rcases ny.2 with⟨rfl,_⟩|⟨g,cap,cur,fz,rfl,Kn,aC,_,_,_,_⟩
  .refine(akC L X j8).mono ?_;rintro e w' ⟨rfl,rfl⟩;exact⟨rfl,.inl rfl⟩
  .by_cases vD:cap=0
   .subst vD;refine(akD L X j8 aC).mono ?_;rintro e w' ⟨rfl,hw⟩;exact⟨rfl,.inr (.inl hw)⟩
   .refine(akE L X vD j8).mono ?_;rintro e w' ⟨rfl,rfl⟩;exact⟨rfl,.inl rfl⟩
end
def aC6:=@Nat.succ_pos
open Go.RowKit
section
variable {P:Program}{gl:Nat->List D}{w w':World}{G:bI}{ρ:List Nat}
theorem Ko{b off:Nat}{v:Value}(h:w.cell? ⟨b,off,none⟩=some v):b<w.heap.size:=ayQ
theorem Sx(h:Below w.heap.size w w'):da w G w' G:=by
 refine⟨λb off v az=>⟨?_,az.2⟩,λb o hm=> ?_,λb n hs=> ?_⟩
 .rw[aCm (h.block b (Ko az.1))];exact az.1
 .obtain⟨h1,av,sh⟩:=hm;exact⟨h1,av,(h.block b (aAU.1 sh).1).trans sh⟩
 .obtain⟨c,E,fz,sh,av⟩:=hs;exact⟨c,E,fz,(h.block b (aAU.1 sh).1).trans sh,av⟩
theorem Sy(aA:∀b L n,G b=some (L,n)->b<w.heap.size)(h:Below w.heap.size w w')(L:Loc):e4 L L w G w' G:=λb akG au=>⟨h.block b (aA _ _ _ au),au⟩
theorem akH(aA:∀b L n,G b=some (L,n)->b<w.heap.size)(h:Below w.heap.size w w'):Good w G w' G where
 size:=h.size
 iB b au _:=⟨h.block b au,rfl⟩
 new _b akG au dA:=absurd (aA _ _ _ dA) (aBv.2 au)
 old _ _ _ h:=h
 keep:=Sx h
 os:=h.os
 out:=h.output
theorem vE{f:Nat}{args:List ah}{s:aU}{r:ah}(bh:gQ P f)
  (h:∀(w:World) (G:bI) (ρ:List Nat) (vs:List Value),ht w G ρ s->py gl w G->ck w G ρ vs args->∃R:Ending->World->Prop,Calls P f ⟨vs⟩ w R/\∀e w',R e w'->∃v,e=.returned v/\(∀w':World,dn w' G ρ .res v r)/\Below w.heap.size w w'):
  bG P gl f args s r s:=by
 refine⟨bh,λw G ρ vs ct aC aA hv=> ?_⟩;obtain⟨R,az,ch⟩:=h w G ρ vs ct aC hv;refine az.mono ?_;intro e w' he;obtain⟨v,rfl,ax,au⟩:=ch e w' he;exact⟨v,G,ρ,rfl,ax w',ct.bR (Sx au) (λi=>Sy aA au _) (λi j=>Sy aA au _),λb L n h=>aAI (aA b L n h) au.size,akH aA au,λ_ _ h=>h⟩
def sx(sep:List UInt8):List (List UInt8)->List UInt8
 |[]=>[]
 |a::l=>a++(l.flatMap λx=>sep++x)
theorem Sz(sep:List UInt8)(l:List (List UInt8)):Lib.join l sep=sx sep l:=by
 cases l with
 |nil=>rfl
 |cons a l=>
  grind[Lib.join_cons,sx,Lib.joinTail]
def fu:List D->Option (List (List UInt8))
 |[]=>some []
 |.str s::l=>match fu l with
  |some r=>some (s::r)
  |none=>none
 |_::_=>none
theorem SA:∀{l:List D} {ss:List (List UInt8)} {vs:List Value},fu l=some ss->cl w G vs l->∃xs:List ByteArray,vs=xs.map .string/\xs.map (·.data.toList)=ss
 |[],ss,vs,h,ax=>by
  simp[fu,aAe]at h;subst h;cases ax;simp
 |d::l,ss,vs,h,ax=>by
  cases d<;>simp[fu,reduceCtorEq]at h;split at h
  .rename_i r gS;simp at h;subst h;cases ax with
   |cons v _ vs _ h1 sh=>
    obtain⟨xs,rfl,rfl⟩:=SA gS sh;cases h1 with
    |str s _ he=>exact⟨s::xs,rfl,by rw[aAP,he]⟩
  .simp at h
theorem Kp:∀{l:List D} {ss:List (List UInt8)},fu l=some ss->l.flatMap D.cells=l/\l.length=ss.length
 |[],ss,h=>by grind[fu]
 |d::l,ss,h=>by
  cases d<;>simp[fu,reduceCtorEq]at h;split at h
  .rename_i r gS;simp at h;subst h;obtain⟨h1,sh⟩:=Kp gS;exact⟨by rw[aBw,h1];rfl,by simp[sh]⟩
  .simp at h
def FL(s:aU)(v:ah):Option (List (List UInt8)):=match v with
 |.aN i off len cap 1=>match s.getD i .dead with
  |.box cs=>cond (Nat.ble len cap&&Nat.ble (off+len) cs.length) (match jz ((cs.drop off).take len)with
   |some l=>fu l
   |none=>none) none
  |_=>none
 |.d (.list 1 l)=>fu l
 |.own _ []=>some []
 |_=>none
structure Kq(P:Program)(f:Nat):Prop where
 none:∀(a:Option Addr) (c:Nat) (sep:ByteArray) (w:World),Calls P f #[.slice a 0 c,.string sep] w λe w'=>e=.returned (.string ⟨#[]⟩)/\w'=w
 some:∀(lq o c:Nat) (xs:List ByteArray) (sep:ByteArray) (w:World),(∀(j:Nat) x,xs[j]?=some x->w.cell? ⟨lq,o+j,Option.none⟩=some (.string x))->lq<w.heap.size->xs.length<=140737488355328->xs.length<=c->
  (Lib.join (xs.map (·.data.toList)) sep.data.toList).length<=140737488355328->Calls P f #[.slice (Option.some ⟨lq,o,Option.none⟩) xs.length c,.string sep] w λe w'=>e=.returned (.string ⟨(Lib.join (xs.map (·.data.toList)) sep.data.toList).toArray⟩)/\Below w.heap.size w w'
theorem SB{b off:Nat}{vs:List Value}(h:iT w G b off vs){j:Nat}{v:Value}(hv:vs[j]?=some v):w.cell? ⟨b,off+j,none⟩=some v:=(h j v hv).1
theorem FM{f:Nat}{x:ah}{sep:List UInt8}{ss:List (List UInt8)}{s:aU}(bh:gQ P f)(J:Kq P f)(ak:FL s x=some ss)(ay:ss.length<=140737488355328)(hlen:(sx sep ss).length<=140737488355328):
  bG P gl f [x,.d (.str sep)] s (.d (.str (sx sep ss))) s:=by
 refine vE bh λw G ρ vs ct aC hv=> ?_;have fg:∀{a:Option Addr} {n c:Nat} {us:List Value} {sp:ByteArray} {l:List D},sp.data.toList=sep->fu l=some ss->cl w G us l->n=l.length->n<=c->(0<n->∃b off,a=some ⟨b,off,none⟩/\∀(j:Nat) v,us[j]?=some v->w.cell? ⟨b,off+j,none⟩=some v)->
   ∃R:Ending->World->Prop,Calls P f ⟨[.slice a n c,.string sp]⟩ w R/\∀e w',R e w'->∃v,e=.returned v/\(∀w':World,dn w' G ρ .res v (.d (.str (sx sep ss))))/\Below w.heap.size w w':=by
  intro a n c us sp l mP kd ax sb az aDE;obtain⟨xs,rfl,iW⟩:=SA kd ax;have aI:=(Kp kd).2;have qO:xs.length=n:=axZ;cases n with
  |zero=>
   refine⟨_,J.none a c sp w,?_⟩;rintro e w' ⟨rfl,rfl⟩;have:ss=[]:=axZ;subst this;exact⟨_,rfl,λ_=>.d _ _ (.str _ _ rfl),Below.refl _ _⟩
  |succ n=>
   obtain⟨b,off,rfl,ig⟩:=aDE (aC6 n);have SC:∀(j:Nat) x,xs[j]?=some x->w.cell? ⟨b,off+j,none⟩=some (.string x):=λj x aK=>ig j _ axY;have Kr:=by
    have wb:xs[0]?=some (xs[0]' axW):=aAj _;exact Ko (SC 0 _ wb)
   have FN:=J.some b off c xs sp w SC Kr axW axW (by grind[Sz]);rw[qO]at FN;refine⟨_,FN,?_⟩;rintro e w' ⟨rfl,au⟩;refine⟨_,rfl,λ_=>.d _ _ (.str _ _ ?_),au⟩;grind[Sz]
 cases hv with
 |cons v1 _ pB _ h1 sh=>cases sh with
  |cons v2 _ oN _ av aW=>
   cases aW;cases av with
   |d _ _ av=>cases av with
    |str sp _ mP=>
     unfold FL at ak;split at ak
     .rename_i i off len cap;cases h1 with
      |aN _ _ _ _ eu _ b cN Cb aO=>
       split at ak
       .rename_i cs gU;cases hle:(Nat.ble len cap&&Nat.ble (off+len) cs.length)with
        |false=>grind
        |true=>
         rw[hle]at ak;simp at ak;rw[aAc]at hle;have akI:=aAr hle.1;have hle:=aAr hle.2;split at ak
         .rename_i l aI;have eA:kv w G ρ i b (.box cs):=by grind[ht.at]
          obtain⟨c,E,fz,hd,dY,u4,Om,avX⟩:=eA;have aY:(c.toList.drop off).take len=(c.toList.drop off).take len:=rfl;have tz:((c.toList.drop off).take len).length=len:=axZ;have j5:cl w G ((c.toList.drop off).take len) l:=by
           refine yV (ρ:=ρ) (LC:=λj=>.du i (off+j)) (k:=0) (xs:=(cs.drop off).take len) axZ (λj v x hv ak=> ?_) aI;grind
          refine fg (us:=(c.toList.drop off).take len) mP ak j5 (by grind[cl.length]) (Nat.le_trans akI Cb) (λ_=>⟨b,off,rfl,λj v aK=> ?_⟩);grind[World.cell?]
         grind
       grind
     .rename_i l;cases h1 with
      |d _ _ h1=>cases h1 with
       |kT a c _=>exact fg mP ak .nil rfl (aAa _) (λh=>absurd h (Nat.lt_irrefl 0))
       |list b off n c _ _ us aj aF aZ bP cK=>
        rw[(Kp ak).1]at cK;exact fg mP ak cK aj aF λ_=>⟨b,off,rfl,λj v aK=>SB bP aK⟩
     .cases h1 with
      |nil a sz=>exact fg (l:=[]) mP ak .nil rfl (aAa _) (λh=>absurd h (Nat.lt_irrefl 0))
     grind
def Cu:Nat->Nat->List UInt8->List UInt8
 |0,_,acc=>acc
 |f+1,n,acc=>cond (Nat.blt n 10) (UInt8.ofNat (48+n)::acc) (Cu f (n/10) (UInt8.ofNat (48+n%10)::acc))
theorem SD:∀(f n:Nat) (acc:List UInt8),n<10^f->Cu f n acc=cond (Nat.beq f 0) acc (Lib.decDigits n++acc)
 |0,n,acc,_=>rfl
 |f+1,n,acc,h=>by
  simp only[Cu];cases au:Nat.blt n 10 with
  |true=>
   have eZ:n<10:=axY;rw[Lib.decDigits,dif_pos eZ];rfl
  |false=>
   have eZ:¬n<10:=λcG=>Bool.noConfusion (au.symm.trans (show Nat.blt n 10=true by grind[Nat.blt_eq]));rw[aAw,SD f (n/10) _ axW];conv=>rhs;rw[Lib.decDigits,dif_neg eZ]
   cases f with
   |zero=>omega
   |succ f=>simp[Nat.beq]
structure Ks(P:Program)(f:Nat):Prop where
 small:∀(i:Nat),i<100->∀w:World,Calls P f #[.int .i64 i] w λe w'=>e=.returned (.string ⟨(Lib.decDigits i).toArray⟩)/\w'=w
theorem akJ{f n:Nat}{s:aU}(bh:gQ P f)(J:Ks P f)(ay:n<100):bG P gl f [.d (.int .i64 n)] s (.d (.str (Cu 2 n []))) s:=by
 refine vE bh λw G ρ vs ct aC hv=> ?_;cases hv with
 |cons v1 _ pB _ h1 sh=>
  cases sh;cases h1 with
  |d _ _ h1=>
   cases h1;refine⟨_,J.small n ay w,?_⟩;rintro e w' ⟨rfl,rfl⟩;refine⟨_,rfl,λ_=>.d _ _ (.str _ _ ?_),Below.refl _ _⟩;grind[SD,Nat.beq]
structure Kt(P:Program)(f:Nat):Prop where
 ok:∀(s:ByteArray),s.size<=9223372036854775806->∀v:Int,Lib.atoiAll s.data.toList=.ok v->∀w:World,Calls P f #[.string s] w λe w'=>e=.returned (.tuple #[.int .i64 v,.nilIface])/\Below w.heap.size w w'
theorem SE{f:Nat}{l:List UInt8}{v:Int}{s:aU}(bh:gQ P f)(J:Kt P f)(aI:l.length<=9223372036854775806)(hv:Lib.atoiAll l=.ok v):
  bG P gl f [.d (.str l)] s (.tuple [.d (.int .i64 v),.d .iy]) s:=by
 refine vE bh λw G ρ vs ct aC jk=> ?_;cases jk with
 |cons v1 _ pB _ h1 sh=>
  cases sh;cases h1 with
  |d _ _ h1=>cases h1 with
   |str sp _ mP=>
    subst mP;refine⟨_,J.ok sp axY v hv w,?_⟩;rintro e w' ⟨rfl,au⟩;exact⟨_,rfl,λ_=>.tuple [.int .i64 v,.nilIface] _ (.cons _ _ _ _ (.d _ _ (.int _ _)) (.cons _ _ _ _ (.d _ _ .iy) .nil)),au⟩
structure AtoiErr(P:Program)(gl:Nat->List D)(f mQ jR:Nat):Prop where
 akK:gl mQ=[.hT]
 eX:gl jR=[.hT]
 range:∀(s:ByteArray),s.size<=281474976710656->Lib.atoiAll s.data.toList=.range->∀(aL:Value) (w:World),w.cell? ⟨mQ,0,none⟩=some aL->(aL=.nilIface\/∃te xH,aL=.iface te xH)->
  Calls P f #[.string s] w λe w'=>∃t v,e=.returned (.tuple #[.int .i64 (Lib.atoiSat s.data.toList),.iface t v])/\Below w.heap.size w w'
 akL:∀(s:ByteArray),s.size<=281474976710656->Lib.atoiAll s.data.toList=Lib.NumEnd.syntax->∀(aL:Value) (w:World),w.cell? ⟨jR,0,none⟩=some aL->(aL=.nilIface\/∃te xH,aL=.iface te xH)->
  Calls P f #[.string s] w λe w'=>∃t v,e=.returned (.tuple #[.int .i64 0,.iface t v])/\Below w.heap.size w w'
theorem SF{g:Nat}(aC:py gl w G)(h:gl g=[.hT]):∃t v,w.cell? ⟨g,0,none⟩=some (.iface t v):=by
 have:=aC.1 g;rw[h]at this;generalize hp:Value.pointer (some ⟨g,0,none⟩)=q at this;cases this with
 |e1 b base off vs cs h1 sh=>
  cases sh with
  |cons v _ vs _ av aW=>
   cases av with
   |hT t v=>
    obtain⟨rfl,hp⟩:=hp;have:=SB h1 (j:=0) rfl;grind
theorem SG{f mQ jR:Nat}{l:List UInt8}{s:aU}(bh:gQ P f)(J:AtoiErr P gl f mQ jR)(aI:l.length<=281474976710656)(hv:Lib.atoiAll l=.range):
  bG P gl f [.d (.str l)] s (.tuple [.d (.int .i64 (Lib.atoiSat l)),.d .hT]) s:=by
 refine vE bh λw G ρ vs ct aC jk=> ?_;cases jk with
 |cons v1 _ pB _ h1 sh=>
  cases sh;cases h1 with
  |d _ _ h1=>cases h1 with
   |str sp _ mP=>
    subst mP;obtain⟨te,xH,az⟩:=SF aC J.akK;refine⟨_,J.range sp axY hv _ w az (.inr ⟨te,xH,rfl⟩),?_⟩;rintro e w' ⟨t,v,rfl,au⟩;exact⟨_,rfl,λ_=>.tuple [.int .i64 (Lib.atoiSat sp.data.toList),.iface t v] _ (.cons _ _ _ _ (.d _ _ (.int _ _)) (.cons _ _ _ _ (.d _ _ (.hT _ _)) .nil)),au⟩
theorem SH{f mQ jR:Nat}{l:List UInt8}{s:aU}(bh:gQ P f)(J:AtoiErr P gl f mQ jR)(aI:l.length<=281474976710656)(hv:Lib.atoiAll l=Lib.NumEnd.syntax):
  bG P gl f [.d (.str l)] s (.tuple [.d (.int .i64 0),.d .hT]) s:=by
 refine vE bh λw G ρ vs ct aC jk=> ?_;cases jk with
 |cons v1 _ pB _ h1 sh=>
  cases sh;cases h1 with
  |d _ _ h1=>cases h1 with
   |str sp _ mP=>
    subst mP;obtain⟨te,xH,az⟩:=SF aC J.eX;refine⟨_,J.akL sp axY hv _ w az (.inr ⟨te,xH,rfl⟩),?_⟩;rintro e w' ⟨t,v,rfl,au⟩;exact⟨_,rfl,λ_=>.tuple [.int .i64 0,.iface t v] _ (.cons _ _ _ _ (.d _ _ (.int _ _)) (.cons _ _ _ _ (.d _ _ (.hT _ _)) .nil)),au⟩
def Ku(P:Program)(t e f:Nat):Prop:=∀(b:Nat) (p v:Value) (bs:List Value) (s:ByteArray) (w:World),pU t e b p v bs w->bs.length+s.size<=140737488355328->
 Calls P f #[.pointer (some ⟨b,0,none⟩),.string s] w λx w'=>x=.returned (.tuple #[.int .i64 s.size,.nilIface])/\Ct b v w w'/\
  ∃v',pU t e b (.pointer (some ⟨b,0,none⟩)) v' (bs++Lib.strCells s) w'/\(∀g,v'.ownBlock=some g->v.ownBlock=some g\/w.heap.size<=g)/\Kh v e w w'
def Kv(P:Program)(t e f:Nat):Prop:=∀(b:Nat) (p v:Value) (l:List UInt8) (w:World),pU t e b p v (Lib.byteCells l) w->
 Calls P f #[.pointer (some ⟨b,0,none⟩)] w λx w'=>x=.returned (.string ⟨l.toArray⟩)/\Kj v l.length w w'
theorem SI{i b t e:Nat}{bs:List UInt8}(h:kv w G ρ i b (.hU t e bs)):∃p v,pU t e b p v (Lib.byteCells bs) w/\G b=some (.obj i,0)/\∀g,v.ownBlock=some g->G g=some (.du i 1,0)/\∃c fz,w.heap[g]?=some (.cells c e fz):=by
 obtain⟨p,v,h1,sh,av,aW⟩:=h;have hlen:=aC4 bs;rcases aW with⟨rfl,rfl⟩|⟨g,cap,c,fz,rfl,a2,a3,a4,a5,E8,Kw,akM⟩
 .exact⟨p,_,⟨h1,av,⟨rfl,.inl ⟨rfl,rfl⟩⟩,by simp[Value.ownBlock]⟩,sh,λg aC=>by grind[Value.ownBlock]⟩
 .refine⟨p,_,⟨h1,av,⟨axW,.inr ⟨g,cap,c,fz,axZ,aAa _,a2,axW,axW,E8,axW,?_⟩⟩,?_⟩,sh,λk aq=> ?_⟩
  .rw[hlen,aB6,akM];rfl
  all_goals grind[Value.ownBlock]
theorem SJ{i b t e:Nat}{p v:Value}{bs:List UInt8}(h:pU t e b p v (Lib.byteCells bs) w)(h1:G b=some (.obj i,0))(sh:∀g,v.ownBlock=some g->G g=some (.du i 1,0)):kv w G ρ i b (.hU t e bs):=by
 obtain⟨g1,g2,g3,g4⟩:=h;have hlen:=aC4 bs;refine⟨p,v,g1,h1,g2,?_⟩;rcases g3.2 with⟨rfl,wb⟩|⟨g,cap,c,fz,rfl,_,a2,a3,a4,a5,E8,Kw⟩
 .grind
 .refine .inr ⟨g,cap,c,fz,axZ,a2,sh g rfl,axW,axW,a5,axW,?_⟩;rw[hlen,aB6]at Kw;exact Kw
theorem Kx{i b:Nat}{v:Value}{G':bI}{s s':aU}{o':b9}(ct:ht w G ρ s)(aA:∀b L n,G b=some (L,n)->b<w.heap.size)(hi:ρ[i]?=some (b+1))(gq:s'=s.set i o')(au:G b=some (.obj i,0))
  (hv:∀g,v.ownBlock=some g->G g=some (.du i 1,0)) (aq:Ct b v w w') (dA:∀k,G' k=G k\/(w.heap.size<=k/\k<w'.heap.size/\G' k=some (.du i 1,0)))
  (tq:∀k n,(k=b\/v.ownBlock=some k)->tc w k n->tc w' k n) (bd:kv w' G' ρ i b o'):
  ht w' G' ρ s'/\(∀b L n,G' b=some (L,n)->b<w'.heap.size)/\Good w G w' G':=by
 have hold:=λk aq=>(dA k).resolve_right λh=>absurd h.1 (Nat.not_le.2 aq);have SK:∀k,k<w.heap.size->(∀n,G k≠some (.obj i,n))->(∀n,G k≠some (.du i 1,n))->w'.heap[k]?=w.heap[k]?:=λk fQ h1 sh=>
  aq.block k fQ (λe=>h1 0 axY) (λe=>sh 0 (hv k e))
 have Ep:da w G w' G':=by
  refine⟨λk off u az=> ?_,λk o hm=> ?_,λk n hs=> ?_⟩
  .have fQ:=Ko az.1;have aO:∀L,G k≠some (L,0):=λL h=>absurd (az.2.1 L 0 h) (aBh _);refine⟨?_,?_,az.2.2⟩
   .rw[aCm (aq.block k fQ (λe=>aO _ (by rw[e];exact au)) (λe=>aO _ (hv k e)))];exact az.1
   .intro L n h;rw[hold k fQ]at h;exact az.2.1 L n h
  .obtain⟨h1,av,sh⟩:=hm;have fQ:k<w.heap.size:=(aAU.1 sh).1;exact⟨axY,av,(SK k fQ (λn h=>axY) (λn h=>axY)).trans sh⟩
  .by_cases lW:k=b\/v.ownBlock=some k
   .simp_all
   .obtain⟨c,E,fz,sh,av⟩:=hs;exact⟨c,E,fz,(aq.block k (aAU.1 sh).1 (λe=>lW (.inl e)) (λe=>lW (.inr e))).trans sh,av⟩
 refine⟨⟨by rw[gq,aBm];exact ct.1,λj c o aK pC=> ?_⟩,λk L n h=> ?_,?_⟩
 .by_cases n9:j=i
  .grind
  .rw[gq,aAQ (λe=>n9 e.symm)]at pC;refine(ct.2 j c o aK pC).bR Ep (λ_ _ h=>h) (λk n h=> ?_) (λm k n h=> ?_)
   .grind
   grind
 .grind[Nat.lt_of_lt_of_le,Ct.size]
 .refine⟨aq.size,λk fQ h=>⟨SK k fQ (λn cG=> ?_) (λn cG=> ?_),hold k fQ⟩,λk n fQ h=> ?_,λk n fQ h=>axY,Ep,aq.os,aq.out⟩;all_goals grind
theorem SL{f i t e:Nat}{bs x:List UInt8}{s:aU}(bh:gQ P f)(W:Ku P t e f)(hs:s[i]?=some (.hU t e bs))(hlen:bs.length+x.length<=140737488355328):
  bG P gl f [.ptr i 0,.d (.str x)] s (.tuple [.d (.int .i64 x.length),.d .iy]) (s.set i (.hU t e (bs++x))):=by
 refine⟨bh,λw G ρ vs ct aC aA hv=> ?_⟩;cases hv with
 |cons v1 _ pB _ h1 sh=>cases sh with
  |cons v2 _ oN _ av aW=>
   cases aW;cases h1 with
   |ptr _ _ b hi=>cases av with
    |d _ _ av=>cases av with
     |str sp _ mP=>
      subst mP;obtain⟨p,v,hA,au,Cv⟩:=SI (ct.2 i b _ hi hs);have cg:sp.size=sp.data.toList.length:=rfl;refine(W b p v _ sp w hA (by grind[Lib.byteCells_length])).mono ?_;rintro x w' ⟨rfl,aq,v',zR,jl,EK⟩;have Oj:Lib.byteCells bs++Lib.strCells sp=Lib.byteCells (bs++sp.data.toList):=by simp[Lib.byteCells,Lib.strCells]
      rw[Oj]at zR;have avY:∀g,v'.ownBlock=some g->g<w'.heap.size:=by
       intro g oG;rcases zR.2.2.1.2 with⟨rfl,_⟩|⟨g2,cap,c,fz,rfl,_,a2,_⟩
       .grind[Value.ownBlock]
       .simp[Value.ownBlock,aAe]at oG;grind
      let G':bI:=λk=>if v'.ownBlock=some k then some (.du i 1,0)else G k
      have BP:∀k,G' k=G k\/(w.heap.size<=k/\k<w'.heap.size/\G' k=some (.du i 1,0)):=axZ;have akN:G' b=some (.obj i,0):=axZ;obtain⟨bN,b5,dq⟩:=Kx (s':=s.set i (.hU t e (bs++sp.data.toList))) (G':=G') ct aA hi rfl au (λg h=>(Cv g h).1) aq BP (λk n lW ey=>by
       rcases lW with rfl|lW
       .obtain⟨c,E,fz,q1,bF⟩:=ey;rw[hA.1]at q1;simp at q1;obtain⟨rfl,_,_⟩:=q1;exact⟨_,_,_,zR.1,bF⟩
       .obtain⟨c,E,fz,q1,bF⟩:=ey;obtain⟨_,c2,qG,cE⟩:=Cv k lW;rw[q1]at cE;simp at cE;obtain⟨rfl,rfl,rfl⟩:=cE;obtain⟨c',pE,ei,gF⟩:=EK k c fz lW q1;exact⟨c',_,pE,ei,axW⟩) (SJ zR akN (λg oG=>axZ))
      refine⟨_,G',ρ,rfl,?_,bN,b5,dq,λ_ _ h=>h⟩;exact .tuple [.int .i64 sp.size,.nilIface] _ (.cons _ _ _ _ (.d _ _ (by rw[cg];exact .int _ _)) (.cons _ _ _ _ (.d _ _ .iy) .nil))
theorem SM{f i t e:Nat}{bs:List UInt8}{s:aU}(bh:gQ P f)(W:Kv P t e f)(hs:s[i]?=some (.hU t e bs)):bG P gl f [.ptr i 0] s (.d (.str bs)) s:=by
 refine⟨bh,λw G ρ vs ct aC aA hv=> ?_⟩;cases hv with
 |cons v1 _ pB _ h1 sh=>
  cases sh;cases h1 with
  |ptr _ _ b hi=>
   obtain⟨p,v,hA,au,Cv⟩:=SI (ct.2 i b _ hi hs);refine(W b p v bs w hA).mono ?_;rintro x w' ⟨rfl,ch⟩;have iX:s.set i (.hU t e bs)=s:=by
    apply aBV;grind
   have cg:∀{n:Nat},w'.heap.size=w.heap.size\/True:=λ{_}=>.inr trivial;have main:Ct b v w w'->pU t e b p v (Lib.byteCells bs) w'->(∀k n,(k=b\/v.ownBlock=some k)->tc w k n->tc w' k n)->∃v0 G' ρ',Ending.returned (Value.string ⟨bs.toArray⟩)=.returned v0/\dn w' G' ρ' .res v0 (.d (.str bs))/\ht w' G' ρ' s/\(∀b L n,G' b=some (L,n)->b<w'.heap.size)/\Good w G w' G'/\(∀i b:Nat,ρ[i]?=some b->ρ'[i]?=some b):=by
    intro aq zR ey;obtain⟨bN,b5,dq⟩:=Kx (s':=s) (G':=G) ct aA hi iX.symm au (λg h=>(Cv g h).1) aq (λ_=>.inl rfl) ey (SJ zR au (λg h=>(Cv g h).1));exact⟨_,G,ρ,rfl,.d _ _ (.str _ _ rfl),bN,b5,dq,λ_ _ h=>h⟩
   rcases ch with rfl|⟨a,ty,rfl⟩|⟨g,c,rfl,ay,rfl⟩
   .exact main ⟨rfl,rfl,aAd _,λ_ _ _ _=>rfl⟩ hA (λ_ _ _ h=>h)
   .have hold:∀k,k<w.heap.size->(w.drew.alloc (.view a ty)).heap[k]?=w.heap[k]?:=λk aq=>Lib.alloc_old w.drew _ k aq;refine main ⟨rfl,rfl,axX,λk aq _ _=>hold k aq⟩ ?_ (λk n _ ey=> ?_)
    .obtain⟨q1,bF,cE,ei⟩:=hA;refine⟨(hold b (aAU.1 q1).1).trans q1,bF,⟨cE.1,?_⟩,ei⟩;rcases cE.2 with h|⟨g,cap,cur,fz,aj,aF,aZ,bP⟩
     all_goals grind
    .obtain⟨c,E,fz,aj,aF⟩:=ey;exact⟨c,E,fz,(hold k (aAU.1 aj).1).trans aj,aF⟩
   .obtain⟨q1,bF,cE,ei⟩:=hA;have BM:g≠b:=λe=>ei (by rw[e];rfl);have Ky:∀k,k≠g->(w.drew.freeze ⟨g,0,none⟩ bs.length).heap[k]?=w.heap[k]?:=by
     intro k aq;unfold World.freeze;rw[aAG ay];simp[aCg];rw[aAG (λe=>aq e.symm)];rfl
    have akO:∀cur E fz,w.heap[g]?=some (.cells cur E fz)->∃pE,(w.drew.freeze ⟨g,0,none⟩ bs.length).heap[g]?=some (.cells cur E pE)/\pE.2<=max fz.2 bs.length:=by
     intro cur E fz h;have cG:w.drew.heap[g]?=some (.cells cur E fz):=h;obtain⟨lo,jj⟩:=fz;unfold World.freeze;grind
    have w4:(w.drew.freeze ⟨g,0,none⟩ bs.length).heap.size=w.heap.size:=by
     unfold World.freeze;rw[aAG ay];simp
    refine main ⟨by unfold World.freeze;rw[aAG ay];rfl,by unfold World.freeze;rw[aAG ay];rfl,axW,λk aq avZ akP=>Ky k (λe=>akP (by rw[e];rfl))⟩ ?_ (λk n lW ey=> ?_)
    .refine⟨(Ky b (λe=>BM e.symm)).trans q1,bF,⟨cE.1,?_⟩,ei⟩;rcases cE.2 with⟨h,_⟩|⟨g2,cap,cur,fz,aj,aF,aZ,bP,cK⟩
     all_goals grind
    .obtain⟨c0,E,fz,aj,aF⟩:=ey;by_cases SN:k=g
     .subst SN;obtain⟨pE,f1,f2⟩:=akO _ _ _ aj;exact⟨c0,E,pE,f1,aF⟩
     .exact⟨c0,E,fz,(Ky k SN).trans aj,aF⟩
end
def zS:Nat:=140737488355328
def Kz(t e:Nat)(args:List ah)(s:aU):Out:=match args with
 |[.ptr i 0,.d (.str x)]=>match s[i]? with
  |some (.hU ek e' bs)=>cond (Nat.beq ek t&&Nat.beq e' e&&Nat.ble (bs.length+x.length) zS) (some (.tuple [.d (.int .i64 x.length),.d .iy],s.set i (.hU ek e' (bs++x)))) none
  |_=>none
 |_=>none
def KA(t e:Nat)(args:List ah)(s:aU):Out:=match args with
 |[.ptr i 0]=>match s[i]? with
  |some (.hU ek e' bs)=>cond (Nat.beq ek t&&Nat.beq e' e) (some (.d (.str bs),s)) none
  |_=>none
 |_=>none
def KB(args:List ah)(s:aU):Out:=match args with
 |[l,.d (.str sep)]=>match FL s l with
  |some ss=>cond (Nat.ble ss.length zS&&Nat.ble (sx sep ss).length zS) (some (.d (.str (sx sep ss)),s)) none
  |none=>none
 |_=>none
def KC(args:List ah)(s:aU):Out:=match args with
 |[.d (.int .i64 (.ofNat n))]=>cond (Nat.blt n 100) (some (.d (.str (Cu 2 n [])),s)) none
 |_=>none
def KD(args:List ah)(s:aU):Out:=match args with
 |[.d (.str x)]=>cond (Nat.ble x.length 281474976710656) (match Lib.atoiAll x with
  |.ok v=>some (.tuple [.d (.int .i64 v),.d .iy],s)
  |.range=>some (.tuple [.d (.int .i64 (Lib.atoiSat x)),.d .hT],s)
  |Lib.NumEnd.syntax=>some (.tuple [.d (.int .i64 0),.d .hT],s)) none
 |_=>none
def KE(t e nT fs vF fi gK:Nat):Nat->List ah->aU->Out:=λf args s=>
 cond (Nat.beq f nT) (Kz t e args s) (cond (Nat.beq f fs) (KA t e args s) (cond (Nat.beq f vF) (KB args s) (cond (Nat.beq f fi) (KC args s) (cond (Nat.beq f gK) (KD args s) none))))
structure uf(P:Program)(gl:Nat->List D)(t e nT fs vF fi gK mQ jR:Nat):Prop where
 oS:gQ P nT
 cs:gQ P fs
 Cw:gQ P vF
 ci:gQ P fi
 ca:gQ P gK
 w:Ku P t e nT
 s:Kv P t e fs
 j:Kq P vF
 i:Ks P fi
 a:Kt P gK
 FO:AtoiErr P gl gK mQ jR
theorem akQ{P:Program}{gl:Nat->List D}{t e f:Nat}{args:List ah}{s:aU}{r:ah}{s':aU}(bh:gQ P f)(W:Ku P t e f)(h:Kz t e args s=some (r,s')):bG P gl f args s r s':=by
 unfold Kz at h;split at h
 .rename_i i x;split at h
  .rename_i ek e' bs hs;cases az:(Nat.beq ek t&&Nat.beq e' e&&Nat.ble (bs.length+x.length) zS)with
   |false=>simp_all
   |true=>
    rw[az]at h;simp only[aAc]at az;obtain⟨rfl,rfl⟩:=h;obtain rfl:=aAn az.1.1;obtain rfl:=aAn az.1.2;exact SL bh W hs (aAr az.2)
  simp_all
 simp_all
theorem akR{P:Program}{gl:Nat->List D}{t e f:Nat}{args:List ah}{s:aU}{r:ah}{s':aU}(bh:gQ P f)(W:Kv P t e f)(h:KA t e args s=some (r,s')):bG P gl f args s r s':=by
 unfold KA at h;split at h
 .rename_i i;split at h
  .rename_i ek e' bs hs;cases az:(Nat.beq ek t&&Nat.beq e' e)with
   |false=>simp_all
   |true=>
    rw[az]at h;simp only[aAc]at az;obtain⟨rfl,rfl⟩:=h;obtain rfl:=aAn az.1;obtain rfl:=aAn az.2;grind[SM]
  simp_all
 simp_all
theorem akS{P:Program}{gl:Nat->List D}{f:Nat}{args:List ah}{s:aU}{r:ah}{s':aU}(bh:gQ P f)(W:Kq P f)(h:KB args s=some (r,s')):bG P gl f args s r s':=by
 unfold KB at h;split at h
 .rename_i l sep;split at h
  .rename_i ss hs;cases az:(Nat.ble ss.length zS&&Nat.ble (sx sep ss).length zS)with
   |false=>simp_all
   |true=>
    rw[az]at h;simp only[aAc]at az;obtain⟨rfl,rfl⟩:=h;exact FM bh W hs (aAr az.1) (aAr az.2)
  simp_all
 simp_all
theorem akT{P:Program}{gl:Nat->List D}{f:Nat}{args:List ah}{s:aU}{r:ah}{s':aU}(bh:gQ P f)(W:Ks P f)(h:KC args s=some (r,s')):bG P gl f args s r s':=by
 unfold KC at h;split at h
 .rename_i n;cases az:Nat.blt n 100 with
  |false=>simp_all
  |true=>
   rw[az]at h;grind[akJ,Nat.blt_eq]
 simp_all
theorem akU{P:Program}{gl:Nat->List D}{f mQ jR:Nat}{args:List ah}{s:aU}{r:ah}{s':aU}(bh:gQ P f)(W:Kt P f)(E:AtoiErr P gl f mQ jR)(h:KD args s=some (r,s')):bG P gl f args s r s':=by
 unfold KD at h;split at h
 .rename_i x;cases az:Nat.ble x.length 281474976710656 with
  |false=>simp_all
  |true=>
   rw[az]at h;have az:=aAr az;grind[SE,SG,SH]
 simp_all
theorem akV{P:Program}{gl:Nat->List D}{t e nT fs vF fi gK mQ jR:Nat}(X:uf P gl t e nT fs vF fi gK mQ jR):gX P gl (KE t e nT fs vF fi gK):=by
 intro f args s r s' h;unfold KE at h;cases h1:Nat.beq f nT with
 |true=>rw[h1]at h;rw[aAn h1];exact akQ X.oS X.w h
 |false=>
  rw[h1]at h;cases sh:Nat.beq f fs with
  |true=>rw[sh]at h;rw[aAn sh];exact akR X.cs X.s h
  |false=>
   rw[sh]at h;cases av:Nat.beq f vF with
   |true=>grind[Nat.eq_of_beq_eq_true,akS,uf.Cw,uf.j]
   |false=>
    rw[av]at h;cases aW:Nat.beq f fi with
    |true=>grind[Nat.eq_of_beq_eq_true,akT,uf.ci,uf.i]
    |false=>
     rw[aW]at h;cases bL:Nat.beq f gK with
     |true=>rw[bL]at h;rw[aAn bL];exact akU X.ca X.a X.FO h
     |false=>simp_all
end Go.aH
