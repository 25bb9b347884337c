/- Part of texts_said. -/
import Derived.Test.YtmgpekpnidjfoaaGreatDoorM4
import Derived.OrdersIn
import Derived.Shelf.Strings.BuilderF
import Derived.Lib.Join
import Derived.Lib.ItoaNum
import Derived.Lib.AtoiAll
set_option linter.defProp false
set_option maxRecDepth 100000
set_option maxHeartbeats 8000000
set_option linter.unusedSimpArgs false
set_option linter.unusedVariables false
namespace Go.aJ
variable {p:Prop}
section
variable {P:Program}{gl:Nat->List D}{n0 nt:Nat}{a:Act}{w w' w0:World}{G G' G0:bJ}{ρ ρ' ρ0:List Nat}{lam lam':Nat->Option Nat}{st aU:af}{o:Oper}{Q:Exit->Act->World->Prop}
variable {O:Option aA->World->bJ->List Nat->Prop}{Y:iJ Prop}{yi fO:Nat}
structure tw(O:Option aA->World->bJ->List Nat->Prop)(ρ0:List Nat)(fO:Nat):Prop where
 run:∀p W G ρ W' G' ρ',O p W G ρ->Good W G W' G'->(∀i b:Nat,ρ0[i]?=some b->ρ'[i]?=some b)->O p W' G' ρ'
 pre:∀p W G ρ,O p W G ρ->∀i b:Nat,ρ0[i]?=some b->ρ[i]?=some b
 kv:∀p W G ρ,O p W G ρ->∃r,W.heap[fO]?=some (.loop r)
def BB(P:Program)(gl:Nat->List D)(O:Option aA->World->bJ->List Nat->Prop)(Y:iJ Prop)(fO m:Nat):Prop:=
 ∀(W:World) (G:bJ) (ρ:List Nat) (s:aV) (vs:List Value) (xs:List ag) (ik:Option aA->aV->Prop),O none W G ρ->pw gl W G ρ s->cf W G ρ vs xs->Y xs s ik->
  YieldAt Fence.wide m P fO ⟨vs⟩ W λe W'=>∃(p':Option aA) (G':bJ) (ρ':List Nat) (s':aV),e=.returned (.bool p'.isNone)/\O p' W' G' ρ'/\pw gl W' G' ρ' s'/\da W G W' G'/\
   (∀b,b≠fO->b<W.heap.size->G b=none->W'.heap[b]?=W.heap[b]?/\G' b=none)/\(∀i b:Nat,ρ[i]?=some b->ρ'[i]?=some b)/\ik p' s'
def qH(n0:Nat)(gl:Nat->List D)(nt:Nat)(O:Option aA->World->bJ->List Nat->Prop)(K:af->Option aA->Prop)(a':Act)(w':World):Prop:=
 nt<=a'.tmps.size/\∃G' ρ' lam' aU p',Marks n0 w' G' a'.defers/\bX gl w' G' ρ' lam' a'.tmps aU/\O p' w' G' ρ'/\K aU p'
def tz(n0:Nat)(gl:Nat->List D)(nt:Nat)(O:Option aA->World->bJ->List Nat->Prop)(K:aA->af->Option aA->Prop):Exit->Act->World->Prop
 |.normal,a',w'=>qH n0 gl nt O (K .normal) a' w'
 |.exit i,a',w'=>qH n0 gl nt O (K (.exit i)) a' w'
 |.ret,a',w'=>qH n0 gl nt O (K .ret) a' w'
 |_,_,_=>False
theorem y6{pp:Option aA}{K:af->Option aA->Prop}{a':Act}(au:tw O ρ0 fO)(bb:O pp w G ρ)(h:cy n0 gl nt w G ρ (λst=>K st pp) a' w'):qH n0 gl nt O K a' w':=by
 obtain⟨aD,G',ρ',lam',aU,aj,aW,bQ,cK,dQ⟩:=h;exact⟨aD,G',ρ',lam',aU,pp,aj,aW,au.run _ _ _ _ _ _ _ bb bQ (λi b hi=>cK i b (au.pre _ _ _ _ bb i b hi)),dQ⟩
theorem P'{n:Nat}{next:Act->World->Prop}(h:o.wp P a w next Q):o.wpIn Fence.wide n P a w next Q:=by
 refine⟨λ_ _=>trivial,?_⟩;rw[show Fence.wide.round=none from rfl,Oper.semAt_none];unfold Oper.wp at h;generalize (execOp a.eval o).run P w=r at h;cases r with
 |ok k7 w'=>
  cases k7 with
  |value v=>exact h
  |skip=>exact h
  |defer d=>exact h
  |enter f args=>exact⟨λh=>by grind[Fence.wide],callsIn_wide.2 h⟩
  |row r args=>
   refine⟨λh=>by grind[Fence.wide],?_⟩;intro c cs _;obtain⟨v,bS,h1,h2⟩:=h c cs;exact⟨v,bS,h1,stepsIn_wide.2 h2⟩
  |_=>exact h.elim
 |halt e w'=>cases e<;>first|exact h|exact h.elim
theorem Marks.aif{l:List Deferred}(h:Marks n0 w G l)(aw:∃r,w.heap[fO]?=some (.loop r))(hi:∀b,b≠fO->b<w.heap.size->G b=none->w'.heap[b]?=w.heap[b]?/\G' b=none):Marks n0 w' G' l:=by
 obtain⟨hq,h1,h2,av⟩:=h;refine⟨hq,h1,h2,λD cH=> ?_⟩;grind
def y7:I->Bool
 |.dH .. =>false
 |_=>true
theorem Ju{α:Type}{x:Option α}{f:α->I}{i:I}(bm:∀a,y7 (f a)=true)(h:x.map f=some i):y7 i=true:=by
 obtain⟨a,_,rfl⟩:=aAt.1 h;simp_all
theorem aul{α:Type}{x:Option α}{f:α->Option I}{i:I}(bm:∀a,f a=some i->y7 i=true)(h:x.bind f=some i):y7 i=true:=by
 obtain⟨a,_,h⟩:=azV.1 h;grind
theorem aih{an:eo}{m:fl}{d:Option Nat}{f:aJ.O}{args:List aJ.O}(h:jc P an m o=some (.dH d f args)):
  ∃c fo t,o.op=.call c/\o.dst=d/\c.callee=.value fo/\bP P t fo=some f/\hD (λx y=>∃t,bP P t x=some y) c.args.toList args:=by
 have key:y7 (.dH d f args)=false:=rfl;by_cases hv:∃c fo,o.op=.call c/\c.callee=.value fo
 .obtain⟨c,fo,bu,ay⟩:=hv;unfold jc at h;rw[bu]at h;simp only[ay,aAB,azV]at h;obtain⟨ys,hy,h⟩:=h;have hy:=Ie (f:=λ_ i=>c.argTypes.getD i 0) hy;split at h
  .split at h
   .grind
   .split at h
    .grind
    .obtain⟨rfl,rfl,rfl⟩:=h;exact⟨c,_,0,bu,rfl,ay,rfl,hy⟩
  grind[Option.bind_eq_some_iff]
 .have:y7 (.dH d f args)=true:=by
   unfold jc at h;split at h;case h_27=>
    rename_i c bu;split at h
    .simp_all
    all_goals
     repeat' first
      |(cases h)
      |(cases h)
      |(refine Ju (λ_=> ?_) h<;>rfl)
      |(replace h:=azV.1 h;obtain⟨_,_,h⟩:=h)
      |(unfold x4 at h)
      |(split at h)
      |(dsimp only at h;split at h)
   all_goals
    repeat' first
     |(cases h;done)
     |(cases h;rfl)
     |(exact Ju (λ_=>rfl) h)
     |(refine Ju (λ_=> ?_) h;split<;>rfl)
     |(replace h:=azV.1 h;obtain⟨_,_,h⟩:=h)
     |(unfold x4 at h)
     |(split at h)
     |(dsimp only at h;split at h)
  simp_all
theorem Jv{R:Type}{A:mc R}{Y:iJ R}{i:I}{st:af}{pp:Option aA}{K:af->Option aA->R}:
  (∃j d f args,i=.dH d f args/\aK gl st f=.fT j/\mf A gl Y yi i st pp K=A.guard (Nat.beq j yi) (Ar A gl Y d args st pp K))\/mf A gl Y yi i st pp K=step A gl i st λst=>K st pp:=by
 cases i with
 |dH d f args=>
  cases hv:aK gl st f with
  |fT j=>exact .inl ⟨j,d,f,args,rfl,hv,by simp_all[mf,Au]⟩
  |_=>simp_all[mf,Au]
 |_=>exact .inr rfl
theorem pw.aii{W':World}{s':aV}(h:bX gl w G ρ lam a.tmps st)(hw:pw gl W' G' ρ' s')(au:da w G W' G')(cM:∀i b:Nat,ρ[i]?=some b->ρ'[i]?=some b):
  bX gl W' G' ρ' (λ_=>none) a.tmps {st.la with s:=s'} where
 aP t:=.ck ((P4 (h.aP t)).keep au λi b=>cM i (b+1))
 bI t cs ay:=by grind[af.la]
 nb _ _:=rfl
 ob:=hw.ob
 eI:=hw.eI
 lt:=hw.lt
theorem aij{n:Nat}{an:eo}{m:fl}{d:Option Nat}{f:aJ.O}{args:List aJ.O}{pp:Option aA}{K:af->Option aA->Prop}(hg:BB P gl O Y fO (n-1))(au:tw O ρ0 fO)(rU:ρ0[yi]?=some (fO+1))(p:bV n0 gl nt w G ρ lam a st)
  (bb:O pp w G ρ) (h:jc P an m o=some (.dH d f args)) (a6:kg nt o=true) (bm:aK gl st f=.fT yi) (hs:Ar (bz P gl) gl Y d args st pp K):o.wpIn Fence.wide n P a w (qH n0 gl nt O K) Q:=by
 obtain⟨c,fo,t,bu,Bj,ay,oi,ak⟩:=aih h;obtain⟨aE,hs⟩:=hs;simp only[azH]at aE;obtain rfl:pp=none:=axu;obtain⟨L,ew⟩:=dC oi p.rel;rw[bm]at ew;have hA:=ew;have EL:a.eval fo=.func (.yield fO) #[] #[]:=by
  generalize a.eval fo=v at hA;cases hA with
  |fT _ l aH=>
   have:=au.pre _ _ _ _ bb yi _ rU;simp_all
 have rq:=AL p ak aE.2;obtain⟨fn,tmps,assign,body,dy,tf⟩:=hg w G ρ st.s _ _ _ bb p.rel.wd rq hs;have aw:(execOp a.eval o).run P w=.ok (.round fO fn tmps assign body) w:=by
  have e:(#[]:Array Value)++(⟨c.args.toList.map a.eval⟩:Array Value)++ #[]=⟨c.args.toList.map a.eval⟩:=axt;simp[execOp,bu,azP,resolve,ay,EL,Deferred.ofValue,azU,azS,invoke];rw[<-dy];congr 2;grind
 refine⟨λ_ _=>trivial,?_⟩;rw[show Fence.wide.round=none from rfl,Oper.semAt_none,aw,Oper.uponIn_round];refine⟨λh=>by grind[Fence.wide],tf.mono ?_⟩;rintro e W' ⟨p',G',ρ',s',rfl,h1,h2,av,aZ,bW,dh⟩;have dt:=pw.aii p.rel h2 av bW;have hm:=p.eC.aif (au.kv _ _ _ _ bb) aZ;rw[Bj];cases d with
 |none=>exact⟨p.sz,G',ρ',_,_,p',hm,dt,h1,dh⟩
 |some d=>
  have bp:d<a.tmps.size:=by
   unfold kg at a6;rw[Bj]at a6;exact az' (by grind[Nat.blt_eq]) p.sz
  exact⟨axB,G',ρ',_,_,p',by grind[put_defers],dt.set bp (.ck (.d _ _ (.bool _))),h1,dh⟩
theorem aik{n:Nat}{an:eo}{m:fl}{i:I}{pp:Option aA}{K:af->Option aA->Prop}(hg:BB P gl O Y fO (n-1))(au:tw O ρ0 fO)(rU:ρ0[yi]?=some (fO+1))(p:bV n0 gl nt w G ρ lam a st)
  (bb:O pp w G ρ) (h:jc P an m o=some i) (a6:kg nt o=true) (hs:mf (bz P gl) gl Y yi i st pp K):o.wpIn Fence.wide n P a w (qH n0 gl nt O K) Q:=by
 rcases Jv (gl:=gl) (yi:=yi) (A:=bz P gl) (Y:=Y) (i:=i) (st:=st) (pp:=pp) (K:=K)with⟨j,d,f,args,rfl,bm,he⟩|he
 .rw[he]at hs;obtain⟨aL,hs⟩:=hs;grind[Nat.eq_of_beq_eq_true,aij]
 .rw[he]at hs;exact P' (Oper.wp_mono (λa' w' h=>y6 au bb h) (Ig p h a6 hs))
theorem bV.EM{pp:Option aA}{K:af->Option aA->Prop}(p:bV n0 gl nt w G ρ lam a st)(bb:O pp w G ρ)(h:K st pp):qH n0 gl nt O K a w:=
 ⟨p.sz,G,ρ,lam,st,pp,p.eC,p.rel,bb,h⟩
theorem aum{R:Type}(A:mc R)(gl:Nat->List D)(Y:iJ R)(yi:Nat)(g:cb)(l:List cb)(st:af)(pp:Option aA)(K:af->Option aA->R):
  hP A gl Y yi (g::l) st pp K=hP A gl Y yi [g] st pp λst pp=>hP A gl Y yi l st pp K:=by
 obtain⟨g,i⟩:=g;cases g with
 |none=>rfl
 |some q=>simp_all[hP]
theorem Jw{n k:Nat}{ops:Array Oper}{rest:List Nat}(bb:ops[k]?=some o)(aE:o.guard=none)(h:o.wp P a w (λa' w'=>wpOpsIn Fence.wide n P ops Q rest a' w') Q):
  wpOpsIn Fence.wide n P ops Q (k::rest) a w:=by
 simp_all[wpOpsIn,Region.wanted,P']
theorem Jx{n:Nat}{ops:Array Oper}{an:eo}{K:af->Option aA->Prop}(hg:BB P gl O Y fO (n-1))(au:tw O ρ0 fO)(rU:ρ0[yi]?=some (fO+1)):
  ∀(fuel:Nat) {l:List Oper} {k:Nat} {m:fl} {is:List cb} {w:World} {G:bJ} {ρ:List Nat} {lam:Nat->Option Nat} {a:Act} {st:af} {pp:Option aA},l.length<=fuel->
  (∀j,ops[k+j]?=l[j]?)->hB P an nt ops m l=some is->bV n0 gl nt w G ρ lam a st->O pp w G ρ->hP (bz P gl) gl Y yi is st pp K->
  (∀a' w',qH n0 gl nt O K a' w'->Q .normal a' w')->wpOpsIn Fence.wide n P ops Q (List.range' k l.length) a w
 |_,[],k,m,is,w,G,ρ,lam,a,st,pp,_,_,ay,p,bb,hs,a8=>by
  simp[hB,azJ]at ay;subst ay;exact a8 _ _ (p.EM bb hs)
 |0,o::l,k,m,is,w,G,ρ,lam,a,st,pp,yK,_,_,_,_,_,_=>axu
 |fuel+1,o::l,k,m,is,w,G,ρ,lam,a,st,pp,yK,aH,ay,p,bb,hs,a8=>by
  have bu:ops[k]?=some o:=by have:=aH 0;simp_all
  rcases uJ ay with⟨g,fV,h1,av,rfl⟩|⟨cU,eH,bC,d,ins,e,fV,rfl,ak,a6,he,av,rfl⟩
  .obtain⟨c1,c2,c3,c4⟩:=wG h1;obtain⟨aib,i⟩:=g;rw[az0,aAQ];simp[wpOpsIn,bu];have next:∀a' w',qH n0 gl nt O (λst pp=>hP (bz P gl) gl Y yi fV st pp K) a' w'->wpOpsIn Fence.wide n P ops Q (List.range' (k+1) l.length) a' w':=by
    rintro a' w' ⟨aD,G',ρ',lam',aU,p',aj,aW,bQ,cK⟩;refine Jx hg au rU fuel (l:=l) (k:=k+1) (m:=uo P m o) axu (λj=> ?_) av ⟨aW,aj,aD⟩ bQ cK a8;have:=aH (j+1);grind
   have mono:∀{K':af->Option aA->Prop},(∀st pp,K' st pp->hP (bz P gl) gl Y yi fV st pp K)->o.wpIn Fence.wide n P a w (qH n0 gl nt O K') Q->o.wpIn Fence.wide n P a w (wpOpsIn Fence.wide n P ops Q (List.range' (k+1) l.length)) Q:=
    λao h=>Oper.wpIn_mono (λa' w' h=>next a' w' (by obtain⟨aD,G',ρ',lam',aU,p',aj,aW,bQ,cK⟩:=h;exact⟨aD,G',ρ',lam',aU,p',aj,aW,bQ,ao _ _ cK⟩)) h
   have Js:mf (bz P gl) gl Y yi i st pp (λst pp=>hP (bz P gl) gl Y yi fV st pp K)->o.wpIn Fence.wide n P a w (wpOpsIn Fence.wide n P ops Q (List.range' (k+1) l.length)) Q:=by
    intro hs;rcases c1 with c1|rfl
    .exact mono (λ_ _ h=>h) (aik hg au rU p bb c1 c3 hs)
    .exact hs.elim
   have skip:∀{K':af->Option aA->Prop},(∀st pp,K' st pp->hP (bz P gl) gl Y yi fV st pp K)->K' (st.dA i.dst (.tuple [])) pp->wpOpsIn Fence.wide n P ops Q (List.range' (k+1) l.length) (a.put o.dst undef) w:=
    λao h=>next _ _ (y6 au bb (Bi p c4.symm c3 (ao _ _ h)))
   rcases Is c2 p.rel.aP with⟨rfl,hw⟩|⟨s,want,rfl,⟨b,aq,hw⟩|⟨aq,hw⟩|⟨g1,g2⟩⟩
   .rw[hw];exact Js hs
   .rw[hw];simp only[hP,aq]at hs;cases ay:cond want b (!b)with
    |true=>simp_all
    |false=>rw[ay]at hs;exact⟨λ_ _=>trivial,skip (K':=λst pp=>hP (bz P gl) gl Y yi fV st pp K) (λ_ _ h=>h) hs⟩
   .rw[hw];simp[hP,aq]at hs;exact⟨λ_ _=>trivial,skip (K':=λst pp=>hP (bz P gl) gl Y yi fV st pp K) (λ_ _ h=>h) hs⟩
   .exfalso;simp[hP]at hs;first
     |exact hs
     |(split at hs
       .rename_i b aq;exact g1 b aq
       .rename_i aq;exact g2 aq
       .exact hs)
  .obtain⟨s,z,i,y,sz,b2,rfl,iL⟩:=uG ak;have kP:ops[k+1]?=some cU:=axu;have qw:ops[k+2]?=some eH:=axu;have gp:step (bz P gl) gl (.kF d s z i y sz b2) st λcL=>hP (bz P gl) gl Y yi fV ((cL.dA (some e) .undef).dA none .undef) pp K:=hs;obtain⟨v1,v2,w1,b,pos,us,xo,b7,G',n',c1,E,fz,r0,bU,b4,dm,pj,s9,gS,kr,qx,ta,Bl⟩:=Ee p iL gp;obtain⟨n4,kq,jF,uH⟩:=Ej iL r0;obtain⟨t,u,ch,bt,rM,x,t3,q1,bK,cI,ep,gR,jx,ou,pg,qs,_⟩:=iL.ex;have lj:=az' a6 p.sz;have rN:=az' he p.sz;rw[az0,az0,az0,aAQ,aAQ,aAQ];refine Jw bu cI (fP bU ?_);rw[bK];refine Jw kP jx (fP (b4 _ _ ?_ ?_) ?_)
   .rw[qv lj,aAa rfl]
   .rw[qv lj,aAc (azZ kq)]
   rw[gR];refine Jw qw qs (uu (dm _ _ ?_ ?_ pj) ?_)
   .rw[qv ayn,aAa rfl]
   .rw[eval_put (λq aT=>(n4 q aT).1),eval_put (λq aT=>(n4 q aT).2)]
   rw[pg];have dt:=Iw (v2:=v2) kr ta lj rN;refine Jx hg au rU fuel (l:=bC) (k:=k+1+1+1) (m:=m) axv (λj=> ?_) av ⟨dt,p.eC.good qx,ay0⟩ (au.run _ _ _ _ _ _ _ bb qx (au.pre _ _ _ _ bb)) Bl a8;have:=aH (j+3);grind
theorem ail{l bC:List Nat}(h:∀i b:Nat,l[i]?=some b->bC[i]?=some b):l.length<=bC.length:=by
 rcases aB3 l.length with h0|h0
 .omega
 .have aun:l[l.length-1]?=some (l[l.length-1]' axs):=azQ axs;grind
theorem tw.forget(au:tw O ρ0 fO){p:Option aA}{n:Nat}(bb:O p w G ρ)(aB:∀b L n,G b=some (L,n)->b<w.heap.size)(az:ρ0.length<=n){ρ2:List Nat}(h:ρ2=ρ\/ρ2=ρ.take n):O p w G ρ2:=by
 refine au.run _ _ _ _ _ _ _ bb (Good.refl aB) λi b hi=> ?_;have h1:=au.pre _ _ _ _ bb i b hi;grind
theorem aim{K:aA->af->Option aA->Prop}(au:tw O ρ0 fO){ts bs:List Nat}{I:Nat->af->Prop}{n N:Nat}(b9:ρ0.length<=N){e:Exit}{a':Act}{w':World}
  (h:tz n0 gl nt O (λx st p=>match x with|.normal=>(bz P gl).guard p.isNone (aJ.forget (bz P gl) N ts bs st (λaU=>∃m,m<n/\I m aU))|x=>K x st p) e a' w'):
  Exit.then (λa' w'=>∃m,m<n/\∃G ρ lam st,bV n0 gl nt w' G ρ lam a' st/\O none w' G ρ/\I m st) (tz n0 gl nt O K) e a' w':=by
 cases e with
 |normal=>
  obtain⟨aD,G',ρ',lam',aU,p',aj,aW,bQ,hp,lL,m,hm,dN⟩:=h;have Jy:p'=none:=axu;subst Jy;have p:bV n0 gl nt w' G' ρ' lam' a' aU:=⟨aW,aj,aD⟩;obtain⟨ρ2,ow,ey,cM⟩:=p.forget (n:=N) lL;exact⟨m,hm,G',ρ2,ow,_,ey,au.forget bQ aW.lt b9 cM,dN⟩
 |exit i=>exact h
 |ret=>exact h
 |_=>exact h.elim
theorem ain{n:Nat}{K:aA->af->Option aA->Prop}{b:eG}{y:Code}(hy:∀{w:World} {G:bJ} {ρ:List Nat} {lam:Nat->Option Nat} {a:Act} {st:af} {pp:Option aA},bV n0 gl nt w G ρ lam a st->O pp w G ρ->
   hc (bz P gl) gl Y yi b st pp K->y.wpIn Fence.wide n P (tz n0 gl nt O K) a w) {e:Exit} {a':Act} {w':World}
  (h:tz n0 gl nt O (λx st p=>match x with|.normal=>hc (bz P gl) gl Y yi b st p K|x=>K x st p) e a' w'):
  Exit.then (y.wpIn Fence.wide n P (tz n0 gl nt O K)) (tz n0 gl nt O K) e a' w':=by
 cases e with
 |normal=>
  obtain⟨aD,G',ρ',lam',aU,p',aj,aW,bQ,cK⟩:=h;exact hy ⟨aW,aj,aD⟩ bQ cK
 |exit i=>exact h
 |ret=>exact h
 |_=>exact h.elim
theorem aio{K:aA->af->Option aA->Prop}{i:Nat}{e:Exit}{a':Act}{w':World}
  (h:tz n0 gl nt O (λx st p=>match x with|.exit j=>cond (Nat.beq j i) (K .normal st p) (K (.exit j) st p)|x=>K x st p) e a' w'):Exit.inBlock i (tz n0 gl nt O K) e a' w':=by
 cases e with
 |normal=>exact h
 |ret=>exact h
 |exit j=>
  obtain⟨aD,G',ρ',lam',aU,p',aj,aW,bQ,dQ⟩:=h;simp[Exit.inBlock];by_cases aL:j=i
  .subst aL;simp at dQ;simp;exact⟨aD,G',ρ',lam',aU,p',aj,aW,bQ,dQ⟩
  .have:Nat.beq j i=false:=by simp_all[aA6]
   simp[this,cond]at dQ;simp[aL,az4];exact⟨aD,G',ρ',lam',aU,p',aj,aW,bQ,dQ⟩
 |_=>exact h.elim
theorem aip(uK:wH P gl){n:Nat}{an:eo}{m:fl}(hg:BB P gl O Y fO (n-1))(au:tw O ρ0 fO)(rU:ρ0[yi]?=some (fO+1)):
  ∀(c:Code) {l bC:List (List Nat×List Nat)} {vc:eG} {w:World} {G:bJ} {ρ:List Nat} {lam:Nat->Option Nat} {a:Act} {st:af} {pp:Option aA} {K:aA->af->Option aA->Prop},
  dq P an nt m c l=some (vc,bC)->bV n0 gl nt w G ρ lam a st->O pp w G ρ->hc (bz P gl) gl Y yi vc st pp K->c.wpIn Fence.wide n P (tz n0 gl nt O K) a w:=by
 intro c;induction c with
 |skip=>
  intro l bC vc w G ρ lam a st pp K ay p bb aw;obtain⟨rfl,rfl⟩:=ay;exact wpIn_skip (p.EM bb aw)
 |region id ops Bm=>
  intro l bC vc w G ρ lam a st pp K ay p bb aw;simp[dq]at ay;split at ay
  .rename_i is mr;cases Bm with
   |true=>
    simp at ay;split at ay
    .rename_i dz fQ;obtain⟨rfl,rfl⟩:=ay;refine aBA.2 (aA' (uK (K:=λe st=>K e st pp) mr fQ p aw) λe a' w' h=> ?_);cases e with
     |normal=>exact y6 (K:=K .normal) au bb h
     |exit i=>exact y6 (K:=K (.exit i)) au bb h
     |ret=>exact y6 (K:=K .ret) au bb h
     |_=>exact h.elim
    .split at ay
     .rename_i c IA;obtain⟨rfl,rfl⟩:=ay;obtain⟨d,e,z,bq,aR,_,c1,c2,c3,rfl⟩:=Iy IA;obtain⟨bN,cz⟩:=afX aw;exact aBA.2 (OY mr c1 c2 c3 p ⟨Good.refl p.rel.lt,λ_ _ h=>h⟩ bN cz λa' w' h=>y6 au bb h)
     .obtain⟨rfl,rfl⟩:=ay;exact aw.elim
   |false=>
    obtain⟨rfl,rfl⟩:=ay;refine wpIn_region ?_;have:List.range ops.size=List.range' 0 ops.toList.length:=ay1;rw[this];exact Jx hg au rU _ (azI _) (λj=>axt) mr p bb aw λa' w' h=>h
  simp_all
 |seq x y tc td=>
  intro l bC vc w G ρ lam a st pp K ay p bb aw;simp[dq]at ay;split at ay
  .rename_i vx l1 ak;split at ay
   .rename_i Bn l2 hy;simp at ay;obtain⟨rfl,rfl⟩:=ay;refine wpIn_seq (aBp (tc ak p bb aw) λe a w h=> ?_);exact ain (λp bb aw=>td hy p bb aw) h
   simp_all
  simp_all
 |cond c x y tc td=>
  intro l bC vc w G ρ lam a st pp K ay p bb aw;simp[dq]at ay;split at ay
  .rename_i vx co l1 Eh ak;split at ay
   .rename_i Bn l2 hy;simp[azJ,aAd]at ay;obtain⟨rfl,rfl⟩:=ay;simp[hc]at aw;obtain⟨L,ew⟩:=dC Eh p.rel;split at aw
    .grind[wpIn_cond_true,wpIn_cond_false,de.bool]
    .exact aw.elim
   simp_all
  simp_all
 |block i b ih=>
  intro l bC vc w G ρ lam a st pp K ay p bb aw;simp[dq]at ay;split at ay
  .rename_i jS l1 aq;simp[azJ,aAd]at ay;obtain⟨rfl,rfl⟩:=ay;exact wpIn_block (aBp (ih aq p bb aw) λe a w h=>aio h)
  simp_all
 |loop b ih=>
  intro l bC vc w G ρ lam a st pp K ay p bb aw;cases l with
  |nil=>grind[dq]
  |cons q l=>
   obtain⟨ts,bs⟩:=q;simp[dq]at ay;split at ay
   .rename_i jS l1 aq;simp only[azJ,aAd]at ay;obtain⟨rfl,rfl⟩:=ay;simp only[hc]at aw;obtain⟨hp,lL,I,n,h0,tf⟩:=aw;have Jy:pp=none:=axu;subst Jy;obtain⟨ρ2,ow,ey,cM⟩:=p.forget (n:=st.s.length) lL;have hlen:∀{w:World} {G:bJ} {ρ:List Nat} {lam:Nat->Option Nat} {a:Act} {st:af},bV n0 gl nt w G ρ lam a st->O none w G ρ->ρ0.length<=st.s.length:=λp bb=>by
     rw[<-p.rel.ob.1];exact ail (au.pre _ _ _ _ bb)
    refine aBA.2 (wp_loop_ghost (λn a w=>∃G ρ lam st,bV n0 gl nt w G ρ lam a st/\O none w G ρ/\I n st) n ⟨G,ρ2,ow,_,ey,au.forget bb p.rel.lt (hlen p bb) cM,h0⟩ ?_);rintro kq bh w1 ⟨gC,jY,IB,cL,p1,f1,dN⟩;refine aA' (aBA.1 (ih aq p1 f1 (tf kq cL dN))) λe a' w' h=> ?_;exact aim au (hlen p1 f1) h
   simp_all
 |exit i=>
  intro l bC vc w G ρ lam a st pp K ay p bb aw;simp only[dq,azJ,aAd]at ay;obtain⟨rfl,rfl⟩:=ay;exact wpIn_exit (p.EM bb aw)
 |ret=>
  intro l bC vc w G ρ lam a st pp K ay p bb aw;simp only[dq,azJ,aAd]at ay;obtain⟨rfl,rfl⟩:=ay;exact wpIn_ret (p.EM bb aw)
 |rangeFunc g ps x y _ _=>
  intro l bC vc w G ρ lam a st pp K ay p bb aw;simp only[dq]at ay;split at ay
  .simp only[aB4,azJ,aAd]at ay;obtain⟨_,rfl,_⟩:=ay;exact aw.elim
  simp_all
 |scope _=>grind[dq]
 |label _=>grind[dq]
 |goto _=>grind[dq]
 |refuse _=>
  intro l bC vc w G ρ lam a st pp K ay p bb aw;simp only[dq,azJ,aAd]at ay;obtain⟨rfl,rfl⟩:=ay;exact aw.elim
end
section
variable {P:Program}{gl:Nat->List D}{n0 nt:Nat}{a:Act}{w w' w0:World}{G G' G0:bJ}{ρ ρ' ρ0:List Nat}{lam lam':Nat->Option Nat}{st aU:af}{o:Oper}{Q:Exit->Act->World->Prop}
def Jz(r0:Loop)(p:Option aA)(r:Loop):Prop:=
 ∃c:Option Code,r={r0 with state:=if c.isNone then .ready else .done,pending:=c}/\(∀j,c=some j->(wU j).isSome=true)/\p=c.bind wU
theorem Jz.none{r0 r:Loop}(h1:r0.state=.ready)(h2:r0.pending=none)(h:Jz r0 none r):r=r0:=by
 obtain⟨c,rfl,aL,hp⟩:=h;cases c with
 |none=>cases r0;subst h1 h2;rfl
 |some j=>
  have:=aL j rfl;simp at hp;rw[<-hp]at this;simp at this
def Kept(w0:World)(G0:bJ)(ρ0:List Nat)(a:Act)(i6:Nat->ag)(r0:Loop)(p:Option aA)(W:World)(G:bJ)(ρ:List Nat):Prop:=
 (∃r,Jz r0 p r/\Still w0 G0 ρ0 a i6 r W G ρ)/\∀i b:Nat,(ρ0++[w0.heap.size+1+1])[i]?=some b->ρ[i]?=some b
theorem aiq{i6:Nat->ag}{r0:Loop}:tw (Kept w0 G0 ρ0 a i6 r0) (ρ0++[w0.heap.size+1+1]) (w0.heap.size+1) where
 run p W G ρ W' G' ρ' h aE hp:=by
  obtain⟨⟨r,h1,h2⟩,_⟩:=h;exact⟨⟨r,h1,h2.run aE λi b hi=>hp i b (hE i _ hi)⟩,hp⟩
 pre p W G ρ h:=h.2
 kv p W G ρ h:=by obtain⟨⟨r,h1,h2⟩,_⟩:=h;exact⟨r,h2.kv⟩
theorem air(ps:List Nat)(vs:List Value)(tmps:Array Value):
  (((⟨ps⟩:Array Tmp).zip (⟨vs⟩:Array Value)).foldl (λtmps (x:Tmp×Value)=>match x with|(t,a)=>tmps.setIfInBounds t a) tmps)=na tmps ps vs:=aid ps vs tmps
theorem ais{an:eo}{m:fl}{x y:Code}{l1 l2 e0 BA:List (List Nat×List Nat)}{jR jS:eG}(br:dq P an nt m x l1=some (jR,l2))(aq:dq P an nt m y e0=some (jS,BA))(qG:kh jR=true)(wV:kh jS=true)
  {r0:Loop} {st0:af} (auo:st0.bI=λ_=>none) (ev:r0.state=.ready) (EN:r0.pending=none) (aC:r0.tmps=a.tmps) {ps:List Nat} (ait:r0.params=⟨ps⟩) (ak:r0.assign=x) (hy:r0.body=y) (jJ:∀p,p∈ps->p<a.tmps.size) (cm:nt<=a.tmps.size) (n:Nat):
  BB P gl (Kept w0 G0 ρ0 a st0.aP r0) (q8 (bz P gl) (run (bz P gl) gl jR) (run (bz P gl) gl jS) ps st0) (w0.heap.size+1) n:=by
 intro W G ρ s vs xs ik au hw dt hg;obtain⟨⟨r,aw,Qa⟩,uE⟩:=au;obtain rfl:=aw.none ev EN;have hlen:xs.length=ps.length:=by
  have:=hg.1;simp_all
 have afN:=dt.length.trans hlen;refine⟨r.fn,_,r.assign,r.body,run_yield Qa.kv axu,?_⟩;have aiu:q8 (bz P gl) (run (bz P gl) gl jR) (run (bz P gl) gl jS) ps ⟨st0.aP,λ_=>none,s⟩ xs s ik:=by
  grind[q8]
 have:=aie (n:=n) (f:=r.fn) br aq qG wV ev EN Qa hw jJ cm dt aiu;rw[ait,aC,ak,hy,air];refine this.mono ?_;rintro e W' ⟨c,G',ρ',s',rfl,h1,h2,av,aZ,bW,dh,h6⟩;refine⟨c.bind wU,G',ρ',s',?_,⟨⟨_,⟨c,rfl,h1,rfl⟩,h2⟩,λi b hi=>dh i b (uE i b hi)⟩,av,aZ,bW,dh,h6⟩;cases c with
 |none=>rfl
 |some j=>
  have:=h1 j rfl;simp;cases aL:wU j with
  |none=>grind
  |some _=>rfl
theorem Qb{i6:Nat->ag}{r:Loop}{a0:Act}{fn:Func}{tmps:Array Value}{R:Ending->World->Prop}:∀(hq:List Nat) {w:World},bX gl w G ρ lam tmps st->Still w0 G0 ρ0 a0 i6 r w G ρ->Marks (w0.heap.size+2) w G (hq.map mark)->
  (∀w,bX gl w G ρ lam tmps st->Still w0 G0 ρ0 a0 i6 r w G ρ->∃v,(results fn tmps).run P w=.ok v w/\R (.returned v) w)->LeavesInM Fence.wide 0 P fn tmps R (hq.map mark) .returning w
 |[],w,p,g,_,h=>h w p g
 |D::hq,w,p,g,hm,h=>by
  obtain⟨h1,h2,av,aZ,bW⟩:=hm.tail;refine⟨axt,.inl ⟨D,w.putObj D (.deferred none),rfl,run_takeDeferred av,?_⟩⟩;refine Qb hq (p.putObj av rfl aZ) ?_ ?_ h
  .exact⟨λt=>(g.aP t).keep (rO av rfl) λ_ _ h=>h,⟨g.lQ.good.putObj av rfl axs,g.lQ.pre⟩,(aBz axs).trans g.kv,g.wT,(aBz axs).trans g.qF,g.y0⟩
  obtain⟨wI,aj,aD,aW⟩:=bW;refine⟨wI,aj,aD,λE fm=> ?_⟩;obtain⟨f1,f2,f3⟩:=aW E fm;have cB:E≠D:=by
   intro e;have IC:mark E∈hq.map mark:=axv;obtain⟨x,ak,he⟩:=aAn.1 IC;simp_all[mark]
  grind[World.putObj_heap_other]
theorem Qc(uK:wH P gl){an:eo}{m:fl}{f:Operand}{ps:List Nat}{x y:Code}{l1 l2 e0 BA:List (List Nat×List Nat)}{jR jS:eG}{K:aA->af->Prop}
  (br:dq P an nt m x l1=some (jR,l2)) (aq:dq P an nt m y e0=some (jS,BA)) (qG:kh jR=true) (wV:kh jS=true)
  (jJ:∀p,p∈ps->p<a.tmps.size) (p:bV n0 gl nt w G ρ lam a st) (az:n0<=w.heap.size) {g:Nat} {cs:List Value} {gD:List ag} (bm:a.eval f=.func (.func g) #[] ⟨cs⟩) (gQ:cf w G ρ cs gD)
  (aw:o2 (bz P gl) gl (run (bz P gl) gl jR) (run (bz P gl) gl jS) ps g gD st K):(Code.rangeFunc f ⟨ps⟩ x y).wp P (j0 n0 gl nt w G ρ K) a w:=by
 obtain⟨cO,⟨uU,aup,wc,sL,y8⟩,EO,aw⟩:=aw;have yF:gL P g:=by
  unfold ur at y8;simp[aAB,azV]at y8;obtain⟨c,aq,_⟩:=y8;exact⟨uU,wc,axu,sL⟩
 refine(aBA (n:=1)).1 (wpIn_rangeFunc λfn _=> ?_);obtain⟨r,jv⟩:∃r:Loop,r={state:=.ready,pending:=none,fn,tmps:=a.tmps,params:=⟨ps⟩,assign:=x,body:=y,defers:=w.heap.size}:=⟨_,rfl⟩;obtain⟨kx,EP⟩:∃kx,kx=(w.alloc (.deferred (some []))).alloc (.loop r):=⟨_,rfl⟩;have Qd:∀b L n,G b=some (L,n)->b<(w.alloc (.deferred (some []))).heap.size:=λb L n h=>by rw[World.size_alloc];have:=p.rel.lt b L n h;omega
 have cz:da w G kx G:=by rw[EP];exact(Jt (w:=w) (G:=G) (.deferred (some []))).trans (Jt (w:=w.alloc (.deferred (some []))) (G:=G) (.loop r))
 have g1:Good w G kx G:=by rw[EP];exact(P6 (w:=w) (.deferred (some [])) p.rel.lt).trans (P6 (w:=w.alloc (.deferred (some []))) (.loop r) Qd)
 have s1:∀L,eV L L w G kx G:=λL b n aq=>by
  rw[EP];exact⟨(P5 (w:=w.alloc (.deferred (some []))) (.loop r) Qd L b n aq).1.trans (P5 (w:=w) (.deferred (some [])) p.rel.lt L b n aq).1,aq⟩
 have auq:kx.heap.size=w.heap.size+2:=axu;have Qe:∀b,w.heap.size<=b->G b=none:=by
  intro b aq;cases aE:G b with
  |none=>rfl
  |some q=>exact absurd (p.rel.lt b q.1 q.2 aE) (aAW.2 aq)
 have still:Still w G ρ a st.la.aP r kx G ρ:=by
  refine⟨λt=>(P4 (p.rel.aP t)).keep cz λ_ _ h=>h,⟨g1,λ_ _ h=>h⟩,?_,Qe _ axs,?_,Qe _ (azI _)⟩;all_goals grind[World.alloc_heap_new,RowKit.Below.heap_alloc]
 have yD:∀b L n,G b=some (L,n)->b<kx.heap.size:=λb L n h=>axv;refine⟨w.heap.size+1,[mark w.heap.size],kx,{target:=.fn (.func g) ⟨cs⟩,args:= #[.func (.yield (w.heap.size+1)) #[] #[]]},kx,g,⟨.func (.yield (w.heap.size+1)) #[] #[]::cs⟩,kx,?_,?_,λ_ _=>trivial,?_,λh=>axt,?_⟩
 .rw[EP,jv];exact run_enterLoop_outer _ _ _ _ _
 .simp[resolve,bm];simp[go_sem]
 .grind[invoke,Oo]
 ·
  unfold ur at y8;simp only[aAB,azV]at y8;obtain⟨c,dP,⟨vc,bC⟩,BD,rs,nO,ER⟩:=y8;simp at ER;subst ER;simp at EO;subst EO;refine callsIn_of_wp_marks (n:=0) wc dP trivial ?_;have aiv:ho kx G (ρ++[w.heap.size+1+1]) (st.s++[.dead]):=by
   have h0:=p.rel.ob.bR (w':=kx) (G':=G) cz (λi=>s1 _) (λi j=>s1 _);refine⟨by simp[h0.1],λi b o aq bb=> ?_⟩;rcases aAv i st.s.length with hi|hi
   .rw[aAp hi]at bb;rw[aAp (by rw[h0.1];omega)]at aq;exact(h0.2 i b o aq bb).bR (da.refl _ _) (λi b h=>hE i _ h) (λ_ _ h=>⟨rfl,h⟩) (λ_ _ _ h=>⟨rfl,h⟩)
   .rw[aAA hi]at bb;have:i-st.s.length=0:=axv;rw[this]at bb;simp at bb;subst bb;trivial
  have hval:cf kx G (ρ++[w.heap.size+1+1]) (.func (.yield (w.heap.size+1)) #[] #[]::cs) (.fT st.s.length::gD):=by
   refine .cons _ _ _ _ (.fT _ _ ?_) (gQ.keep cz (λi b h=>hE i _ h));rw[<-p.rel.ob.1];simp
  have aiw:bV (w.heap.size+2) gl uU.ntmps kx G (ρ++[w.heap.size+1+1]) (λ_=>none)
    {tmps:=(⟨.func (.yield (w.heap.size+1)) #[] #[]::cs⟩:Array Value)++Array.replicate (uU.ntmps-(⟨.func (.yield (w.heap.size+1)) #[] #[]::cs⟩:Array Value).size) undef,defers:=[]}
    {aP:=q7 (.fT st.s.length::gD) 0,bI:=λ_=>none,s:=st.s++[.dead]}:=by
   refine⟨⟨?_,λt cs h=>axv,λ_ _=>rfl,aiv,p.rel.eI.bR cz,yD⟩,.nil,?_⟩
   .intro t;have h1:=IE (n:=0) (t:=t) hval (azF _);have h2:(((⟨.func (.yield (w.heap.size+1)) #[] #[]::cs⟩:Array Value)++Array.replicate (uU.ntmps-(⟨.func (.yield (w.heap.size+1)) #[] #[]::cs⟩:Array Value).size) undef).getD t undef)=((Value.func (.yield (w.heap.size+1)) #[] #[]::cs)[t-0]?).getD undef:=by
     rw[aAE,Array.getElem?_append,aB7];grind
    grind[de.ck]
   grind
  have dV:Kept w G ρ a st.la.aP r none kx G (ρ++[w.heap.size+1+1]):=by
   refine⟨⟨r,⟨none,axu,λj aL=>axu,rfl⟩,⟨still.aP,⟨still.lQ.good,hE⟩,still.kv,still.wT,still.qF,still.y0⟩⟩,λ_ _ h=>h⟩
  have rU:(ρ++[w.heap.size+1+1])[st.s.length]?=some (w.heap.size+1+1):=axS;have aix:=ais (w0:=w) (G0:=G) (ρ0:=ρ) (gl:=gl) (a:=a) br aq qG wV (r0:=r) (st0:=st.la) rfl axv axv axv (ps:=ps) axv axv axv jJ p.sz 0;refine aBp (aip (n:=0) uK aix aiq rU c BD aiw dV aw) ?_;have fin:∀{e:Exit} {a':Act} {W':World} (pp:Option aA->aA),(∀p,pp p=p.getD .normal)->qH (w.heap.size+2) gl uU.ntmps (Kept w G ρ a st.la.aP r) (λAv p=>K (pp p) {st.la with s:=Av.s}) a' W'->
    LeavesInM Fence.wide 0 P uU a'.tmps (rangePost Fence.wide 1 P (w.heap.size+1) (j0 n0 gl nt w G ρ K) {a with defers:=[mark w.heap.size]++a.defers}) a'.defers .returning W':=by
   intro e a' W' pp A6 h;obtain⟨bK,G',ρ',lam',aU,p',q1,cI,⟨⟨bU,uw,ep⟩,gR⟩,jx⟩:=h;obtain⟨hq,IG,_,_⟩:=id q1;rw[IG]at q1⊢;refine Qb hq cI ep q1 λwX t3 t4=> ?_;refine⟨.tuple #[],?_,?_⟩
   .have aH:uU.results.toList=[]:=by
     unfold x7 at nO;split at nO
     .simp_all
     .simp_all
     .have:=ru nO;generalize uU.results.toList=l at this;cases this;rfl
    grind[El,Sem.run_pure,Result.andThen_ok]
   .obtain⟨c,Ea,yH,yJ⟩:=uw;have after:∀(JA:af->Prop),JA {st.la with s:=aU.s}->cy n0 gl nt w G ρ JA {a with defers:=[mark w.heap.size]++a.defers} (wX.putObj (w.heap.size+1) (.loop {bU with state:=.exhausted,pending:=c})):=by
     intro JA au;have h2:=t4.put {bU with state:=.exhausted,pending:=c};have av:=t4.P7 t3.wd {bU with state:=.exhausted,pending:=c};refine⟨p.sz,G',ρ',λ_=>none,_,?_,h2.rel av,h2.lQ.good,h2.lQ.pre,au⟩;obtain⟨wI,d1,d2,d3⟩:=p.eC;refine⟨w.heap.size::wI,axv,aCq.2 ⟨λhm=> ?_,d2⟩,λD cH=> ?_⟩
     .grind
     .rcases azY.1 cH with rfl|cH
      .exact⟨az,h2.qF,h2.y0⟩
      .obtain⟨f1,f2,f3⟩:=d3 D cH;have aB:=(aAk.1 f2).1;obtain⟨hF,i2⟩:=h2.lQ.good.il D aB (.inl f3);simp_all
    rw[A6]at jx;have aiy:bU.state≠.busy:=axv;have uV:=run_endLoop (P:=P) t4.kv aiy;have EN:bU.pending=c:=axv;rw[EN]at uV;refine⟨c,_,uV,?_⟩;cases c with
    |none=>
     simp at yJ;subst yJ;exact after (K .normal) jx
    |some j=>
     simp[aBZ]at yJ;subst yJ;have:=yH j rfl;cases j<;>simp[wU,Option.isSome_none,aAw,Option.isSome_some]at this
     .exact wpIn_exit (after _ jx)
     .exact wpIn_ret (after _ jx)
  intro e a' W' h;cases e with
  |normal=>exact fin (e:=.normal) (λp=>p.getD .normal) (λ_=>rfl) h
  |ret=>exact fin (e:=.ret) (λp=>p.getD .normal) (λ_=>rfl) h
  |exit i=>obtain⟨_,_,_,_,_,_,_,_,_,h⟩:=h;exact h.elim
  |_=>exact h.elim
theorem aiz(uK:wH P gl):Iz P gl:=by
 intro n0 nt an m f ps x y l bC vc w G ρ lam a st K ay p az aw;simp only[dq]at ay;split at ay
 .rename_i fo jR l2 jS e0 oi br aq;simp only[aB4,azJ,aAd,azH]at ay;obtain⟨⟨⟨qG,wV⟩,jJ⟩,rfl,rfl⟩:=ay;obtain⟨ps⟩:=ps;have aiA:∀p,p∈ps->p<a.tmps.size:=λq aT=>az' axu p.sz;simp[run]at aw;obtain⟨L,ew⟩:=dC oi p.rel;split at aw
  .rename_i g gD he;rw[he]at ew;have hA:=ew;generalize EL:a.eval f=aiB at hA;cases hA with
   |func _ fj cs _ _ aiC aur=>
    cases aiC;grind[Qc]
  .rename_i g he;rw[he]at ew;have hA:=ew;generalize EL:a.eval f=aiB at hA;cases hA with
   |d _ _ h=>
    cases h;exact Qc uK br aq qG wV aiA p az EL .nil aw
  .exact aw.elim
 simp_all
end
def aBS:=@Nat.lt_succ_self
abbrev Out:=Option (ag×aV)
def uW:Nat->(af->(af->Out)->Out)->af->Out
 |0,_,_=>none
 |n+1,F,st=>F st λaU=>uW n F aU
def rV:Nat->ag->ag->Bool
 |n+1,.tuple a,.tuple b=>Nat.beq a.length b.length&&(a.zip b).all λp=>rV n p.1 p.2
 |n+1,.agg a,.agg b=>Nat.beq a.length b.length&&(a.zip b).all λp=>rV n p.1 p.2
 |_,a,b=>Dp a b
def y9:b3->b3->Bool
 |.box a,.box b=>Nat.beq a.length b.length&&(a.zip b).all λp=>rV depth p.1 p.2
 |.map a,.map b=>Nat.beq a.length b.length&&(a.zip b).all λp=>kd p.1.1 p.2.1&&rV depth p.1.2 p.2.2
 |.dead,.dead=>true
 |.hM t e b,.hM ek e' cg=>Nat.beq t ek&&Nat.beq e e'&&decide (b=cg)
 |.hZ a,.hZ b=>decide (a=b)
 |_,_=>false
def BF(a b:ag×aV):Bool:=rV depth a.1 b.1&&Nat.beq a.2.length b.2.length&&(a.2.zip b.2).all λp=>y9 p.1 p.2
theorem BG{α:Type}{f:α->α->Bool}(bm:∀a b,f a b=true->a=b):∀{l m:List α},(Nat.beq l.length m.length&&(l.zip m).all λp=>f p.1 p.2)=true->l=m
 |[],[],_=>rfl
 |[],_::_,h=>by simp at h
 |_::_,[],h=>by simp at h
 |a::l,b::m,h=>by
  simp at h;rw[bm a b h.2.1,BG bm (l:=l) (m:=m) axu]
theorem BH:∀(n:Nat) (a b:ag),rV n a b=true->a=b
 |0,a,b,h=>IL (by simp_all[rV])
 |n+1,a,b,h=>by
  cases a<;>cases b<;>simp only[rV]at h<;>first
   |exact congrArg _ (BG (BH n) h)
   |exact IL h
theorem Qf(a b:b3)(h:y9 a b=true):a=b:=by
 unfold y9 at h;split at h
 .rw[BG (BH depth) h]
 .refine congrArg _ (BG (f:=λp q=>kd p.1 q.1&&rV depth p.2 q.2) (λp q hp=> ?_) h);simp at hp;exact Prod.ext (Er hp.1) (BH _ _ _ hp.2)
 all_goals simp_all
theorem aiD{a b:ag×aV}(h:BF a b=true):a=b:=by
 unfold BF at h;rw[Bool.and_assoc,azH]at h;exact Prod.ext (BH _ _ _ h.1) (BG Qf h.2)
def fX(tab:Nat->Option aX)(call:Nat->List ag->aV->Out)(fuel:Nat):mc Out where
 fail:=none
 guard b p:=cond b p none
 call f args s K:=match call f args s with
  |some (r,s')=>K r s'
  |none=>none
 fix F st:=uW fuel F st
 both p q:=match p,q with
  |some a,some b=>cond (BF a b) (some a) none
  |_,_=>none
 iter g k:=match tab g with
  |some cO=>k cO
  |none=>none
def exec(tab:Nat->Option aX)(gl:Nat->List D)(fuel:Nat):Nat->Nat->List ag->aV->Out
 |0,_,_,_=>none
 |n+1,f,args,s=>match tab f with
  |some cO=>lH (fX tab (exec tab gl fuel n) fuel) gl cO args s λr s'=>some (r,s')
  |none=>none
section
variable {P:Program}{gl:Nat->List D}{tab:Nat->Option aX}{call:Nat->List ag->aV->Out}{fuel:Nat}{x:ag×aV}
theorem a7.fh{f:Nat}{cO:aX}{args:List ag}{s s':aV}{r:ag}(h:a7 P f cO)(aw:lH (bz P gl) gl cO args s λfJ wJ=>fJ=r/\wJ=s'):bM P gl f args s r s':=by
 obtain⟨fn,an,h1,h2,av⟩:=h;grind[af6,ah',aiz]
theorem a7.of{f:Nat}{cO:aX}(an:eo)(h1:(P.funcs[f]?).map (λfn=>fn.name== "runtime.NumGoroutine")=some false)(h2:(P.funcs[f]?).bind (ur P an)=some cO):a7 P f cO:=by
 cases bm:P.funcs[f]? with
 |none=>simp_all
 |some fn=>
  rw[bm]at h1 h2;exact⟨fn,an,bm,axu,h2⟩
theorem i7(b:Bool)(p:Out):(fX tab call fuel).guard b p=some x↔b=true/\p=some x:=by
 grind[fX]
theorem aiE{p q:Out}(h:(fX tab call fuel).both p q=some x):p=some x/\q=some x:=by
 simp[fX]at h;split at h
 .rename_i a b;cases aq:BF a b with
  |true=>
   rw[aq]at h;grind[aiD]
  |false=>simp_all
 simp_all
theorem hX:((fX tab call fuel).fail=some x)=False:=by simp[fX]
def gT(P:Program)(gl:Nat->List D)(call:Nat->List ag->aV->Out):Prop:=∀f args s r s',call f args s=some (r,s')->bM P gl f args s r s'
theorem aiF(ay:gT P gl call){f:Nat}{args:List ag}{s:aV}{K:ag->aV->Out}{K':ag->aV->Prop}(ao:∀r s,K r s=some x->K' r s)(h:kG (fX tab call fuel) f args s K=some x):
  kG (bz P gl) f args s K':=by
 unfold kG at h⊢;rw[i7]at h;obtain⟨h1,h2⟩:=h;refine⟨h1,?_⟩;have:∀{fj:List ag} {fv:aV} {Qg:ag->aV->Out},(fX tab call fuel).call f fj fv Qg=some x->∃r s',call f fj fv=some (r,s')/\Qg r s'=some x:=by
  grind[fX]
 obtain⟨r,s',av,aZ⟩:=this h2;rw[i7]at aZ;exact⟨r,s',ay _ _ _ _ _ av,aZ.1,ao _ _ aZ.2⟩
theorem JB{nw rw:Bool}{d s:Nat}{y:O}{sz b2:Nat}{st:af}{K:af->Out}{K':af->Prop}(ao:∀st,K st=some x->K' st)(h:hz (fX tab call fuel) gl nw rw d s y sz b2 st K=some x):hz (bz P gl) gl nw rw d s y sz b2 st K':=by
 unfold hz at h⊢;split at h
 .rename_i ej l e;cases aq:(nw&&l.isEmpty)with
  |true=>
   rw[aq]at h;split at h
   .simp_all
   .cases rw with
    |true=>
     simp at h⊢;split at h
     .rw[i7]at h;exact⟨h.1,ao _ h.2⟩
     grind[hX]
    |false=>
     simp at h⊢;rw[i7]at h;exact⟨h.1,ao _ h.2⟩
   grind[hX]
  |false=>
   rw[aq]at h;simp at h⊢;split at h
   .rw[i7]at h;exact⟨h.1,ao _ h.2⟩
   grind[hX]
 .split at h
  .split at h
   .rw[i7]at h;exact⟨h.1,ao _ h.2⟩
   grind[hX]
  grind[hX]
 .rename_i i off len cap ej e;split at h
  .rename_i cs us k aj aD;rw[i7]at h;refine⟨h.1,?_⟩;have h2:=h.2;cases aq:Nat.ble (len+k) cap with
   |true=>rw[aq]at h2;simp at h2⊢;rw[i7]at h2;exact⟨h2.1,ao _ h2.2⟩
   |false=>rw[aq]at h2;simp at h2⊢;rw[i7]at h2;exact⟨h2.1,ao _ h2.2⟩
  grind[hX]
 .split at h
  .rw[i7]at h;exact⟨h.1,ao _ h.2⟩
  grind[hX]
 grind[hX]
theorem BI(ay:gT P gl call){i:I}{st:af}{K:af->Out}{K':af->Prop}(ao:∀st,K st=some x->K' st)(h:step (fX tab call fuel) gl i st K=some x):step (bz P gl) gl i st K':=by
 cases i;case dH d f xs=>
  simp[step]at h⊢;grind[aiF,hX]
 case p3 d f xs=>
  simp[step]at h⊢;rw[i7]at h;refine⟨h.1,?_⟩;have h2:=h.2;simp[fX]at h2;split at h2
  .rename_i r s' e;refine⟨r,s',ay _ _ _ _ _ e,?_⟩;cases aq:(s'.isEmpty&&(refs depth r).isEmpty)with
   |true=>rw[aq]at h2;exact⟨aq,ao _ h2⟩
   |false=>simp_all
  simp_all
 case ei d c a b=>
  simp[step]at h⊢;grind[hX]
 case mb d neg hk y=>
  match hk with
  |0=>
   simp[step]at h⊢;split at h
   .simp_all
   .have hh:=aiE h;exact⟨ao _ hh.1,ao _ hh.2⟩
   grind[hX]
  |1|2|3|4=>
   simp[step]at h⊢;grind[hX]
  |n+5=>simp_all[step,hX]
 case ap d s y sz b2=>exact JB ao h
 case mQ d s y sz b2=>exact JB ao h
 case mR d s y sz b2=>exact JB ao h
 all_goals (simp only[step]at h)
 all_goals (try simp only[step])
 all_goals (repeat' split at h)
 all_goals first
  |(rw[hX]at h;simp_all)
  |exact ao _ h
  |(simp;exact ao _ h)
  |(rw[i7]at h;exact⟨h.1,ao _ h.2⟩)
  |(rw[i7]at h;have h1:=h.1;have h2:=ao _ h.2;simp;done)
  |(simp[i7]at h;have h1:=h.1;have h2:=h.2.1;simp_all[hG])
  |simp_all[i7,hX]
theorem BJ(ay:gT P gl call):∀{l:List cb} {st:af} {K:af->Out} {K':af->Prop},(∀st,K st=some x->K' st)->steps (fX tab call fuel) gl l st K=some x->steps (bz P gl) gl l st K'
 |[],st,K,K',ao,h=>ao _ h
 |⟨none,i⟩::l,st,K,K',ao,h=>BI ay (λst h=>BJ ay ao h) h
 |⟨some (s,want),i⟩::l,st,K,K',ao,h=>by
  simp only[steps]at h⊢;split at h
  .rename_i b e;cases aq:cond want b (!b)with
   |true=>rw[aq]at h;simp at h⊢;exact BI ay (λst h=>BJ ay ao h) h
   |false=>rw[aq]at h;exact BJ ay ao h
  .rename_i e;exact BJ ay ao h
  .rw[hX]at h;exact h.elim
theorem aiG(ay:gT P gl call){g:cb}{st:af}{K:af->Out}{K':af->Prop}(ao:∀st,K st=some x->K' st)(h:step1 (fX tab call fuel) gl g st K=some x):step1 (bz P gl) gl g st K':=by
 unfold step1 at h⊢;split at h
 .grind[BI]
 .split at h
  .rename_i b e;cases aq:cond _ b (!b)with
   |true=>grind[BI]
   |false=>simp_all
  all_goals grind[hX]
theorem aiH(ay:gT P gl call){id:Nat}{g:cb}{st:af}{K:af->Out}{K':af->Prop}(ao:∀st,K st=some x->K' st)(h:ke (fX tab call fuel) gl id g st K=some x):ke (bz P gl) gl id g st K':=by
 unfold ke at h⊢;cases br:hO g.i with
 |true=>
  rw[br]at h;simp at h⊢;split at h
  .rw[i7]at h;exact⟨h.1,ao _ h.2⟩
  grind[hX]
 |false=>
  grind[aiG]
theorem Qh(ay:gT P gl call):∀{l:List cb} {dz:List (List Nat)} {acc:List (cb×iW)} {id:Nat} {st:af} {K:af->Out} {K':af->Prop},(∀st,K st=some x->K' st)->p9 (fX tab call fuel) gl l dz acc id st K=some x->p9 (bz P gl) gl l dz acc id st K'
 |[],_,_,_,_,_,_,ao,h=>ao _ h
 |g::l,dz,acc,id,st,K,K',ao,h=>by
  refine aiH ay (λaU h=> ?_) h;rw[i7]at h;exact⟨h.1,Qh ay ao h.2⟩
theorem Qi(ay:gT P gl call){l:List cb}{dz:List (List Nat)}{st:af}{K:af->Out}{K':af->Prop}(ao:∀st,K st=some x->K' st)(h:qa (fX tab call fuel) gl l dz st K=some x):qa (bz P gl) gl l dz st K':=Qh ay ao h
theorem ES{n:Nat}{ts bs:List Nat}{st:af}{K:af->Out}{K':af->Prop}(ao:∀st,K st=some x->K' st)(h:forget (fX tab call fuel) n ts bs st K=some x):forget (bz P gl) n ts bs st K':=by
 unfold forget at h⊢;rw[i7]at h;exact⟨h.1,ao _ h.2⟩
def uX(P:Program)(tab:Nat->Option aX):Prop:=∀f cO,tab f=some cO->a7 P f cO
theorem Qj(ay:gT P gl call){Y:iJ Out}{j2:iJ Prop}(hg:∀vs s ik px,(∀p s,ik p s=some x->px p s)->Y vs s ik=some x->j2 vs s px){yi:Nat}{i:I}{st:af}{pp:Option aA}{K:af->Option aA->Out}{K':af->Option aA->Prop}
  (ao:∀st p,K st p=some x->K' st p) (h:mf (fX tab call fuel) gl Y yi i st pp K=some x):mf (bz P gl) gl j2 yi i st pp K':=by
 rcases Jv (gl:=gl) (yi:=yi) (A:=fX tab call fuel) (Y:=Y) (i:=i) (st:=st) (pp:=pp) (K:=K)with⟨j,d,f,args,rfl,bm,he⟩|he
 .rw[he,i7]at h;simp[mf,Au,bm];refine⟨h.1,?_⟩;have h2:=h.2;unfold Ar at h2⊢;rw[i7]at h2;exact⟨h2.1,hg _ _ _ _ (λp s hh=>ao _ _ hh) h2.2⟩
 .rcases Jv (gl:=gl) (yi:=yi) (A:=bz P gl) (Y:=j2) (i:=i) (st:=st) (pp:=pp) (K:=K')with⟨j,d,f,args,rfl,bm,D5⟩|D5
  .simp_all[step,hX]
  grind[BI]
theorem BK(ay:gT P gl call){Y:iJ Out}{j2:iJ Prop}(hg:∀vs s ik px,(∀p s,ik p s=some x->px p s)->Y vs s ik=some x->j2 vs s px){yi:Nat}:
  ∀{l:List cb} {st:af} {pp:Option aA} {K:af->Option aA->Out} {K':af->Option aA->Prop},(∀st p,K st p=some x->K' st p)->hP (fX tab call fuel) gl Y yi l st pp K=some x->hP (bz P gl) gl j2 yi l st pp K'
 |[],st,pp,K,K',ao,h=>ao _ _ h
 |⟨none,i⟩::l,st,pp,K,K',ao,h=>Qj ay hg (λst p h=>BK ay hg ao h) h
 |⟨some (s,want),i⟩::l,st,pp,K,K',ao,h=>by
  simp only[hP]at h⊢;split at h
  .rename_i b e;cases aq:cond want b (!b)with
   |true=>rw[aq]at h;exact Qj ay hg (λst p h=>BK ay hg ao h) h
   |false=>rw[aq]at h;exact BK ay hg ao h
  .rename_i e;exact BK ay hg ao h
  .rw[hX]at h;exact h.elim
theorem aiI(ay:gT P gl call){Y:iJ Out}{j2:iJ Prop}(hg:∀vs s ik px,(∀p s,ik p s=some x->px p s)->Y vs s ik=some x->j2 vs s px){yi:Nat}:
  ∀{c:eG} {st:af} {pp:Option aA} {K:aA->af->Option aA->Out} {K':aA->af->Option aA->Prop},(∀e st p,K e st p=some x->K' e st p)->hc (fX tab call fuel) gl Y yi c st pp K=some x->hc (bz P gl) gl j2 yi c st pp K':=by
 intro c;induction c with
 |skip=>intro st pp K K' ao h;exact ao _ _ _ h
 |ops l=>intro st pp K K' ao h;exact BK ay hg (λst p h=>ao _ _ _ h) h
 |any l dz=>intro st pp K K' ao h;exact Qi ay (λst h=>ao _ _ _ h) h
 |bad=>grind[hc,hX]
 |seq a b iQ jk=>
  intro st pp K K' ao h;refine iQ (λe st p h=> ?_) h;grind
 |cond c a b iQ jk=>
  grind[hc,hX]
 |block i b ih=>
  intro st pp K K' ao h;refine ih (λe st p h=> ?_) h;grind
 |loop ts bs b ih=>
  intro st pp K K' ao h;simp[hc]at h⊢;rw[i7]at h;refine⟨h.1,ES (λst0 h=> ?_) h.2⟩;refine⟨λn st=>uW n (λcL rec=>hc (fX tab call fuel) gl Y yi b cL none λx st p=>match x with
   |.normal=>(fX tab call fuel).guard p.isNone (forget (fX tab call fuel) cL.s.length ts bs st rec)
   |x=>K x st p) st=some x,fuel,h,?_⟩
  intro n cL h1;cases n with
  |zero=>grind[uW]
  |succ n=>
   refine ih (λe st p h=> ?_) h1;cases e with
   |normal=>rw[i7]at h;exact⟨h.1,ES (λst h=>⟨n,aBS n,h⟩) h.2⟩
   |exit i=>simp_all
   |ret=>simp_all
 |h4 y ps a b _ _=>grind[hc,hX]
 |exit i=>intro st pp K K' ao h;exact ao _ _ _ h
 |ret=>intro st pp K K' ao h;exact ao _ _ _ h
theorem aiJ(ay:gT P gl call)(aC:uX P tab){mg h4:af->(aA->af->Out)->Out}{Qk Ql:af->(aA->af->Prop)->Prop}(br:∀st K K',(∀e st,K e st=some x->K' e st)->mg st K=some x->Qk st K')
  (aq:∀st K K',(∀e st,K e st=some x->K' e st)->h4 st K=some x->Ql st K') {ps:List Nat} {g:Nat} {gD:List ag} {st:af} {K:aA->af->Out} {K':aA->af->Prop} (ao:∀e st,K e st=some x->K' e st)
  (h:o2 (fX tab call fuel) gl mg h4 ps g gD st K=some x):o2 (bz P gl) gl Qk Ql ps g gD st K':=by
 unfold o2 at h⊢;simp[fX]at h;split at h
 .rename_i cO ER;change (fX tab call fuel).guard _ (hc (fX tab call fuel) gl (q8 (fX tab call fuel) mg h4 ps st.la) _ _ _ _ _)=some x at h;rw[i7]at h;refine⟨cO,aC _ _ ER,h.1,aiI ay (λvs s ik px wY aw=> ?_) (λe st p hh=> ?_) h.2⟩
  .unfold q8 at aw⊢;rw[i7]at aw;refine⟨aw.1,br _ _ _ (λe st hh=> ?_) aw.2⟩;grind[hX]
  grind
 simp_all
theorem aiK(ay:gT P gl call)(aC:uX P tab):∀{c:eG} {st:af} {K:aA->af->Out} {K':aA->af->Prop},(∀e st,K e st=some x->K' e st)->run (fX tab call fuel) gl c st K=some x->run (bz P gl) gl c st K':=by
 intro c;induction c with
 |skip=>intro st K K' ao h;exact ao _ _ h
 |ops l=>intro st K K' ao h;exact BJ ay (λst h=>ao _ _ h) h
 |any l dz=>intro st K K' ao h;exact Qi ay (λst h=>ao _ _ h) h
 |bad=>grind[run,hX]
 |seq a b iQ jk=>
  intro st K K' ao h;refine iQ (λe st h=> ?_) h;grind
 |cond c a b iQ jk=>
  grind[run,hX]
 |block i b ih=>
  intro st K K' ao h;refine ih (λe st h=> ?_) h;grind
 |loop ts bs b ih=>
  intro st K K' ao h;refine ES (λst0 h=> ?_) h;refine⟨λn st=>uW n (λcL rec=>run (fX tab call fuel) gl b cL λx st=>match x with
   |.normal=>forget (fX tab call fuel) cL.s.length ts bs st rec
   |x=>K x st) st=some x,fuel,h,?_⟩
  intro n cL h1;cases n with
  |zero=>grind[uW]
  |succ n=>
   refine ih (λe st h=> ?_) h1;cases e with
   |normal=>exact ES (λst h=>⟨n,aBS n,h⟩) h
   |exit i=>simp_all
   |ret=>simp_all
 |h4 y ps a b iQ jk=>
  grind[run,aiJ,hX]
 |exit i=>intro st K K' ao h;exact ao _ _ h
 |ret=>intro st K K' ao h;exact ao _ _ h
theorem Qm(ay:gT P gl call)(aC:uX P tab){cO:aX}{args:List ag}{s:aV}{K:ag->aV->Out}{K':ag->aV->Prop}(ao:∀r s,K r s=some x->K' r s)(h:lH (fX tab call fuel) gl cO args s K=some x):
  lH (bz P gl) gl cO args s K':=by
 refine aiK ay aC (λe st h=> ?_) h;have key:∀{st:af},(match qb st cO.res with
   |some r=>(fX tab call fuel).guard (dU depth r) (K r (gc s.length r st.s))
   |none=>(fX tab call fuel).fail)=some x->(match qb st cO.res with
   |some r=>(bz P gl).guard (dU depth r) (K' r (gc s.length r st.s))
   |none=>(bz P gl).fail):=by
  intro st h;cases aw:qb st cO.res with
  |some r=>rw[aw]at h;rw[i7]at h;exact⟨h.1,ao _ _ h.2⟩
  |none=>grind[hX]
 grind[hX]
theorem aus(aC:uX P tab):∀n,gT P gl (exec tab gl fuel n):=by
 intro n;induction n with
 |zero=>intro f args s r s' h;grind[exec]
 |succ n ih=>
  intro f args s r s' h;simp[exec]at h;split at h
  .rename_i cO hv;refine(aC f cO hv).fh (Qm ih aC (λr0 fv h0=> ?_) h);simp_all
  simp_all
def BL(ext:Nat->List ag->aV->Out)(tab:Nat->Option aX)(gl:Nat->List D)(fuel:Nat):Nat->Nat->List ag->aV->Out
 |0,_,_,_=>none
 |n+1,f,args,s=>match ext f args s with
  |some r=>some r
  |none=>match tab f with
   |some cO=>lH (fX tab (BL ext tab gl fuel n) fuel) gl cO args s λr s'=>some (r,s')
   |none=>none
theorem aiL{ext:Nat->List ag->aV->Out}(he:gT P gl ext)(aC:uX P tab):∀n,gT P gl (BL ext tab gl fuel n):=by
 intro n;induction n with
 |zero=>intro f args s r s' h;grind[BL]
 |succ n ih=>
  intro f args s r s' h;simp[BL]at h;split at h
  .rename_i q aT;rw[h]at aT;exact he _ _ _ _ _ aT
  .split at h
   .rename_i cO hv;refine(aC f cO hv).fh (Qm ih aC (λr0 fv h0=> ?_) h);simp_all
   simp_all
end
def fK(P:Program)(gl:Nat->List D):mc Prop where
 fail:=False
 guard b p:=b=true/\p
 call f args s K:=∃r s',bM P gl f args s r s'/\K r s'
 fix F st:=∃(I:Nat->af->Prop) (n:Nat),I n st/\∀n st,I n st->F st λaU=>∃m,m<n/\I m aU
 both _ _:=False
 iter g k:=∃cO,a7 P g cO/\k cO
def ht(P:Program)(gl:Nat->List D)(bt:Prop->Prop->Prop):mc Prop where
 fail:=False
 guard b p:=b=true/\p
 call f args s K:=∃r s',bM P gl f args s r s'/\K r s'
 fix F st:=∃(I:Nat->af->Prop) (n:Nat),I n st/\∀n st,I n st->F st λaU=>∃m,m<n/\I m aU
 both:=bt
 iter g k:=∃cO,a7 P g cO/\k cO
section
variable {P:Program}{gl:Nat->List D}{bt:Prop->Prop->Prop}
theorem aut(b:Bool)(p:Prop):(ht P gl bt).guard b p=(b=true/\p):=rfl
theorem auu:(fK P gl).fail=False:=rfl
theorem auv(b:Bool)(p:Prop):(fK P gl).guard b p=(b=true/\p):=rfl
theorem auw(p q:Prop):(fK P gl).both p q=False:=rfl
theorem Qn{f:Nat}{args:List ag}{s:aV}{K:ag->aV->Prop}(h:kG (fK P gl) f args s K):
  ∃r s',K r s'/\∀K':ag->aV->Prop,K' r s'->kG (ht P gl bt) f args s K':=by
 obtain⟨h1,r,s',h2,av,aZ⟩:=h;exact⟨_,_,aZ,λK' ao=>⟨h1,r,s',h2,av,ao⟩⟩
theorem JC{nw rw:Bool}{d s:Nat}{y:O}{sz b2:Nat}{st:af}{K:af->Prop}(h:hz (fK P gl) gl nw rw d s y sz b2 st K):∃aU,K aU/\∀K':af->Prop,K' aU->hz (ht P gl bt) gl nw rw d s y sz b2 st K':=by
 unfold hz at h⊢;split at h
 .rename_i ej l e;cases aq:(nw&&l.isEmpty)with
  |true=>
   rw[aq]at h;split at h
   .grind
   .cases rw with
    |true=>
     split at h
     .obtain⟨h1,h2⟩:=h;exact⟨_,h2,λK' ao=>⟨h1,ao⟩⟩
     .exact h.elim
    |false=>
     obtain⟨h1,h2⟩:=h;exact⟨_,h2,λK' ao=>⟨h1,ao⟩⟩
   .exact h.elim
  |false=>
   rw[aq]at h;simp at h⊢;split at h
   .obtain⟨h1,h2⟩:=h;exact⟨_,h2,λK' ao=>⟨h1,ao⟩⟩
   .exact h.elim
 .split at h
  .split at h
   .obtain⟨h1,h2⟩:=h;exact⟨_,h2,λK' ao=>⟨h1,ao⟩⟩
   .exact h.elim
  .exact h.elim
 .rename_i i off len cap ej e;split at h
  .rename_i cs us k aj aD;obtain⟨h1,h⟩:=h;cases aq:Nat.ble (len+k) cap with
   |true=>rw[aq]at h;obtain⟨h2,av⟩:=h;exact⟨_,av,λK' ao=>⟨h1,h2,ao⟩⟩
   |false=>rw[aq]at h;obtain⟨h2,av⟩:=h;exact⟨_,av,λK' ao=>⟨h1,h2,ao⟩⟩
  .exact h.elim
 .split at h
  .obtain⟨aE,h⟩:=h;exact⟨_,h,λK' au=>⟨aE,au⟩⟩
  .exact h.elim
 .exact h.elim
theorem BM{i:I}{st:af}{K:af->Prop}(h:step (fK P gl) gl i st K):∃aU,K aU/\∀K':af->Prop,K' aU->step (ht P gl bt) gl i st K':=by
 cases i;case dH d f xs=>
  simp[step]at h⊢;split at h
  .rename_i e;obtain⟨r,s',h1,h2⟩:=Qn h;exact⟨_,h1,λK' ao=>by first|exact h2 _ ao|(exact h2 _ ao)⟩
  .rename_i e;obtain⟨r,s',h1,h2⟩:=Qn h;exact⟨_,h1,λK' ao=>by first|exact h2 _ ao|(exact h2 _ ao)⟩
  .exact h.elim
 case p3 d f xs=>
  obtain⟨h1,r,s',h2,av,aZ⟩:=h;exact⟨_,aZ,λK' ao=>⟨h1,r,s',h2,av,ao⟩⟩
 case ei d c a b=>
  simp[step]at h⊢;split at h
  .grind
  .exact h.elim
 case ap d s y sz b2=>exact JC h
 case mQ d s y sz b2=>exact JC h
 case mR d s y sz b2=>exact JC h
 all_goals (simp only[step]at h)
 all_goals (try simp only[step])
 all_goals (repeat' split at h)
 all_goals first
  |exact h.elim
  |exact⟨_,h,λK' ao=>ao⟩
  |(refine⟨_,h,λK' ao=> ?_⟩;simp_all)
  |(obtain⟨h1,h2⟩:=h;exact⟨_,h2,λK' ao=>⟨h1,ao⟩⟩)
  |(obtain⟨h1,h2⟩:=h;exact h2.elim)
  |(obtain⟨h1,h2⟩:=h;refine⟨_,h2,λK' ao=> ?_⟩;done)
  |(obtain⟨h1,h2,av⟩:=h;exact⟨_,av,λK' ao=>⟨h1,h2,ao⟩⟩)
  |(obtain⟨h1,h2,av⟩:=h;refine⟨_,av,λK' ao=> ?_⟩;done)
  |(obtain⟨h1,h2,av⟩:=h;exact av.elim)
theorem BN:∀{l:List cb} {st:af} {K:af->Prop},steps (fK P gl) gl l st K->∃aU,K aU/\∀K':af->Prop,K' aU->steps (ht P gl bt) gl l st K'
 |[],st,K,h=>⟨st,h,λK' ao=>ao⟩
 |⟨none,i⟩::l,st,K,h=>by
  obtain⟨cL,h1,h2⟩:=BM h;obtain⟨aN,av,aZ⟩:=BN h1;exact⟨aN,av,λK' ao=>h2 _ (aZ _ ao)⟩
 |⟨some (s,want),i⟩::l,st,K,h=>by
  simp only[steps]at h⊢;split at h
  .rename_i b e;cases aq:cond want b (!b)with
   |true=>
    rw[aq]at h;simp at h⊢;obtain⟨cL,h1,h2⟩:=BM h;obtain⟨aN,av,aZ⟩:=BN h1;exact⟨aN,av,λK' ao=>h2 _ (aZ _ ao)⟩
   |false=>simp_all[BN]
  .simp_all[BN]
  .exact h.elim
theorem aiM{g:cb}{st:af}{K:af->Prop}(h:step1 (fK P gl) gl g st K):∃aU,K aU/\∀K':af->Prop,K' aU->step1 (ht P gl bt) gl g st K':=by
 unfold step1 at h⊢;split at h
 .exact BM h
 .split at h
  .rename_i b e;cases aq:cond _ b (!b)with
   |true=>simp_all[BM]
   |false=>grind
  .grind
  .exact h.elim
theorem aiN{id:Nat}{g:cb}{st:af}{K:af->Prop}(h:ke (fK P gl) gl id g st K):∃aU,K aU/\∀K':af->Prop,K' aU->ke (ht P gl bt) gl id g st K':=by
 unfold ke at h⊢;cases br:hO g.i with
 |true=>
  rw[br]at h;split at h
  .obtain⟨h1,h2⟩:=h;exact⟨_,h2,λK' ao=>⟨h1,ao⟩⟩
  .exact h.elim
 |false=>
  simp_all[aiM]
theorem Qo:∀{l:List cb} {dz:List (List Nat)} {acc:List (cb×iW)} {id:Nat} {st:af} {K:af->Prop},p9 (fK P gl) gl l dz acc id st K->∃aU,K aU/\∀K':af->Prop,K' aU->p9 (ht P gl bt) gl l dz acc id st K'
 |[],_,_,_,st,_,h=>⟨st,h,λK' ao=>ao⟩
 |g::l,dz,acc,id,st,K,h=>by
  obtain⟨cL,⟨h1,h2⟩,av⟩:=aiN h;obtain⟨aN,aZ,bW⟩:=Qo h2;exact⟨aN,aZ,λK' ao=>av _ ⟨h1,bW _ ao⟩⟩
theorem Qp{l:List cb}{dz:List (List Nat)}{st:af}{K:af->Prop}(h:qa (fK P gl) gl l dz st K):∃aU,K aU/\∀K':af->Prop,K' aU->qa (ht P gl bt) gl l dz st K':=Qo h
def ET(F:(af->Prop)->(aA->af->Prop)->af->Prop)(e:aA)(cL:af):Nat->af->Prop
 |0,_=>False
 |k+1,st=>∀(K:aA->af->Prop) (R:af->Prop),K e cL->(∀aU,ET F e cL k aU->R aU)->F R K st
def EU(Y j2:iJ Prop):Prop:=∀vs s ik,Y vs s ik->∃p s',ik p s'/\∀px,px p s'->j2 vs s px
theorem Qq{Y j2:iJ Prop}(hg:EU Y j2){yi:Nat}{i:I}{st:af}{p:Option aA}{K:af->Option aA->Prop}(h:mf (fK P gl) gl Y yi i st p K):
  ∃aU p',K aU p'/\∀K':af->Option aA->Prop,K' aU p'->mf (ht P gl bt) gl j2 yi i st p K':=by
 unfold mf at h⊢;split at h
 .rename_i e;obtain⟨h1,h2,av⟩:=h;obtain⟨p',s',aZ,bW⟩:=hg _ _ _ av;exact⟨_,_,aZ,λK' ao=>⟨h1,h2,bW _ ao⟩⟩
 .rename_i az;obtain⟨aU,h1,h2⟩:=BM h;exact⟨aU,p,h1,λK' ao=>h2 _ ao⟩
theorem BO{Y j2:iJ Prop}(hg:EU Y j2){yi:Nat}:∀{l:List cb} {st:af} {p:Option aA} {K:af->Option aA->Prop},hP (fK P gl) gl Y yi l st p K->
  ∃aU p',K aU p'/\∀K':af->Option aA->Prop,K' aU p'->hP (ht P gl bt) gl j2 yi l st p K'
 |[],st,p,K,h=>⟨st,p,h,λK' ao=>ao⟩
 |⟨none,i⟩::l,st,p,K,h=>by
  obtain⟨cL,p1,h1,h2⟩:=Qq hg h;obtain⟨aN,ey,av,aZ⟩:=BO hg h1;exact⟨aN,ey,av,λK' ao=>h2 _ (aZ _ ao)⟩
 |⟨some (s,want),i⟩::l,st,p,K,h=>by
  simp only[hP]at h⊢;split at h
  .rename_i b e;cases aq:cond want b (!b)with
   |true=>
    rw[aq]at h;obtain⟨cL,p1,h1,h2⟩:=Qq hg h;obtain⟨aN,ey,av,aZ⟩:=BO hg h1;exact⟨aN,ey,av,λK' ao=>h2 _ (aZ _ ao)⟩
   |false=>rw[aq]at h;exact BO hg h
  .rename_i e;exact BO hg h
  .exact h.elim
def EV(F:(af->Prop)->(aA->af->Option aA->Prop)->af->Prop)(e:aA)(cL:af)(p1:Option aA):Nat->af->Prop
 |0,_=>False
 |k+1,st=>∀(K:aA->af->Option aA->Prop) (R:af->Prop),K e cL p1->(∀aU,EV F e cL p1 k aU->R aU)->F R K st
theorem aiO{Y j2:iJ Prop}(hg:EU Y j2){yi:Nat}:∀{c:eG} {st:af} {p:Option aA} {K:aA->af->Option aA->Prop},hc (fK P gl) gl Y yi c st p K->
  ∃e aU p',K e aU p'/\∀K':aA->af->Option aA->Prop,K' e aU p'->hc (ht P gl bt) gl j2 yi c st p K':=by
 intro c;induction c with
 |skip=>intro st p K h;exact⟨_,_,_,h,λK' ao=>ao⟩
 |ops l=>intro st p K h;obtain⟨aU,p',h1,h2⟩:=BO hg h;exact⟨_,_,_,h1,λK' ao=>h2 _ ao⟩
 |any l dz=>intro st p K h;obtain⟨aU,h1,h2⟩:=Qp h;exact⟨_,_,_,h1,λK' ao=>h2 _ ao⟩
 |bad=>intro st p K h;exact h.elim
 |seq a b iQ jk=>
  intro st p K h;obtain⟨e,cL,p1,h1,h2⟩:=iQ h;cases e with
  |normal=>
   obtain⟨aD,aN,ey,av,aZ⟩:=jk h1;exact⟨aD,aN,ey,av,λK' ao=>h2 _ (aZ _ ao)⟩
  |exit i=>exact⟨_,_,_,h1,λK' ao=>h2 _ ao⟩
  |ret=>exact⟨_,_,_,h1,λK' ao=>h2 _ ao⟩
 |cond c a b iQ jk=>
  intro st p K h;simp[hc]at h⊢;split at h
  .grind
  .exact h.elim
 |block i b ih=>
  intro st p K h;obtain⟨e,cL,p1,h1,h2⟩:=ih h;cases e with
  |normal=>exact⟨_,_,_,h1,λK' ao=>h2 _ ao⟩
  |ret=>exact⟨_,_,_,h1,λK' ao=>h2 _ ao⟩
  |exit j=>
   simp only at h1;cases aq:Nat.beq j i with
   |true=>rw[aq]at h1;exact⟨_,_,_,h1,λK' ao=>h2 _ axu⟩
   |false=>rw[aq]at h1;exact⟨_,_,_,h1,λK' ao=>h2 _ axu⟩
 |loop ts bs b ih=>
  intro st p K h;obtain⟨hp,au,I,n,h0,tf⟩:=h;obtain⟨F,gw⟩:∃F:(af->Prop)->(aA->af->Option aA->Prop)->af->Prop,F=λR K cL=>hc (ht P gl bt) gl j2 yi b cL none λx st p=>match x with
   |.normal=>(ht P gl bt).guard p.isNone (forget (ht P gl bt) cL.s.length ts bs st R)
   |x=>K x st p:=⟨_,rfl⟩
  have key:∀n st,I n st->∃e cL p1 k,K e cL p1/\EV F e cL p1 k st:=by
   intro n;induction n using Nat.strongRecOn with
   |_ n JD=>
    intro st dN;obtain⟨x,aN,ey,h1,h2⟩:=ih (tf n st dN);cases x with
    |normal=>
     obtain⟨uY,hf,m,hm,wZ⟩:=h1;obtain⟨e,cL,p1,k,av,aZ⟩:=JD m hm _ wZ;refine⟨e,cL,p1,k+1,av,λK' R ao cX=> ?_⟩;rw[gw];exact h2 _ ⟨uY,hf,cX _ aZ⟩
    |exit i=>
     refine⟨.exit i,aN,ey,1,h1,λK' R ao cX=> ?_⟩;simp_all
    |ret=>
     refine⟨.ret,aN,ey,1,h1,λK' R ao cX=> ?_⟩;simp_all
  obtain⟨e,cL,p1,k,av,aZ⟩:=key n _ h0;refine⟨e,cL,p1,av,λK' ao=>⟨hp,au,EV F e cL p1,k,aZ,λn st ew=> ?_⟩⟩;cases n with
  |zero=>exact ew.elim
  |succ n=>
   have:=ew K' (λaU=>∃m,m<n+1/\EV F e cL p1 m aU) ao (λaU h=>⟨n,aBS n,h⟩);grind
 |h4 y ps a b _ _=>intro st p K h;exact h.elim
 |exit i=>intro st p K h;exact⟨_,_,_,h,λK' ao=>ao⟩
 |ret=>intro st p K h;exact⟨_,_,_,h,λK' ao=>ao⟩
def CE(bt:Prop->Prop->Prop)(P:Program)(gl:Nat->List D)(c:eG):Prop:=∀(st:af) (K:aA->af->Prop),run (fK P gl) gl c st K->∃e aU,K e aU/\∀K':aA->af->Prop,K' e aU->run (ht P gl bt) gl c st K'
theorem aiP{a b:eG}(br:CE bt P gl a)(aq:CE bt P gl b)(ps:List Nat)(st0:af):EU (q8 (fK P gl) (run (fK P gl) gl a) (run (fK P gl) gl b) ps st0) (q8 (ht P gl bt) (run (ht P gl bt) gl a) (run (ht P gl bt) gl b) ps st0):=by
 intro vs s ik h;obtain⟨aE,h⟩:=h;obtain⟨e,cL,h1,h2⟩:=br _ _ h;cases e with
 |normal=>
  obtain⟨aD,aN,av,aZ⟩:=aq _ _ h1;cases aD with
  |normal=>exact⟨_,_,av,λK' ao=>⟨aE,h2 _ (aZ _ ao)⟩⟩
  |exit i=>exact⟨_,_,av,λK' ao=>⟨aE,h2 _ (aZ _ ao)⟩⟩
  |ret=>exact⟨_,_,av,λK' ao=>⟨aE,h2 _ (aZ _ ao)⟩⟩
 |exit i=>exact h1.elim
 |ret=>exact h1.elim
theorem Qr{a b:eG}(br:CE bt P gl a)(aq:CE bt P gl b){ps:List Nat}{g:Nat}{gD:List ag}{st:af}{K:aA->af->Prop}(h:o2 (fK P gl) gl (run (fK P gl) gl a) (run (fK P gl) gl b) ps g gD st K):
  ∃e aU,K e aU/\∀K':aA->af->Prop,K' e aU->o2 (ht P gl bt) gl (run (ht P gl bt) gl a) (run (ht P gl bt) gl b) ps g gD st K':=by
 obtain⟨cO,h1,h2,av⟩:=h;obtain⟨e,cL,p1,aZ,bW⟩:=aiO (aiP br aq ps st.la) av;cases e with
 |exit i=>exact aZ.elim
 |normal=>exact⟨_,_,aZ,λK' ao=>⟨cO,h1,h2,bW _ ao⟩⟩
 |ret=>exact⟨_,_,aZ,λK' ao=>⟨cO,h1,h2,bW _ ao⟩⟩
theorem Qs:∀{c:eG} {st:af} {K:aA->af->Prop},run (fK P gl) gl c st K->∃e aU,K e aU/\∀K':aA->af->Prop,K' e aU->run (ht P gl bt) gl c st K':=by
 intro c;induction c with
 |skip=>intro st K h;exact⟨_,_,h,λK' ao=>ao⟩
 |ops l=>intro st K h;obtain⟨aU,h1,h2⟩:=BN h;exact⟨_,_,h1,λK' ao=>h2 _ ao⟩
 |any l dz=>intro st K h;obtain⟨aU,h1,h2⟩:=Qp h;exact⟨_,_,h1,λK' ao=>h2 _ ao⟩
 |bad=>intro st K h;exact h.elim
 |seq a b iQ jk=>
  intro st K h;obtain⟨e,cL,h1,h2⟩:=iQ h;cases e with
  |normal=>
   obtain⟨aD,aN,av,aZ⟩:=jk h1;exact⟨aD,aN,av,λK' ao=>h2 _ (aZ _ ao)⟩
  |exit i=>exact⟨_,_,h1,λK' ao=>h2 _ ao⟩
  |ret=>exact⟨_,_,h1,λK' ao=>h2 _ ao⟩
 |cond c a b iQ jk=>
  intro st K h;simp[run]at h⊢;split at h
  .grind
  .exact h.elim
 |block i b ih=>
  intro st K h;obtain⟨e,cL,h1,h2⟩:=ih h;cases e with
  |normal=>exact⟨_,_,h1,λK' ao=>h2 _ ao⟩
  |ret=>exact⟨_,_,h1,λK' ao=>h2 _ ao⟩
  |exit j=>
   simp only at h1;cases aq:Nat.beq j i with
   |true=>rw[aq]at h1;exact⟨_,_,h1,λK' ao=>h2 _ axu⟩
   |false=>rw[aq]at h1;exact⟨_,_,h1,λK' ao=>h2 _ axu⟩
 |loop ts bs b ih=>
  intro st K h;obtain⟨au,I,n,h0,tf⟩:=h;obtain⟨F,gw⟩:∃F:(af->Prop)->(aA->af->Prop)->af->Prop,F=λR K cL=>run (ht P gl bt) gl b cL λx st=>match x with
   |.normal=>forget (ht P gl bt) cL.s.length ts bs st R
   |x=>K x st:=⟨_,rfl⟩
  have key:∀n st,I n st->∃e cL k,K e cL/\ET F e cL k st:=by
   intro n;induction n using Nat.strongRecOn with
   |_ n JD=>
    intro st dN;obtain⟨x,aN,h1,h2⟩:=ih (tf n st dN);cases x with
    |normal=>
     obtain⟨hf,m,hm,wZ⟩:=h1;obtain⟨e,cL,k,av,aZ⟩:=JD m hm _ wZ;refine⟨e,cL,k+1,av,λK' R ao cX=> ?_⟩;rw[gw];exact h2 _ ⟨hf,cX _ aZ⟩
    |exit i=>
     refine⟨.exit i,aN,1,h1,λK' R ao cX=> ?_⟩;simp_all
    |ret=>
     refine⟨.ret,aN,1,h1,λK' R ao cX=> ?_⟩;simp_all
  obtain⟨e,cL,k,av,aZ⟩:=key n _ h0;refine⟨e,cL,av,λK' ao=>⟨au,ET F e cL,k,aZ,λn st ew=> ?_⟩⟩;cases n with
  |zero=>exact ew.elim
  |succ n=>
   have:=ew K' (λaU=>∃m,m<n+1/\ET F e cL m aU) ao (λaU h=>⟨n,aBS n,h⟩);grind
 |h4 y ps a b iQ jk=>
  intro st K h;simp[run]at h⊢;split at h
  .rename_i e;exact Qr (λ_ _=>iQ) (λ_ _=>jk) h
  .rename_i e;exact Qr (λ_ _=>iQ) (λ_ _=>jk) h
  .exact h.elim
 |exit i=>intro st K h;exact⟨_,_,h,λK' ao=>ao⟩
 |ret=>intro st K h;exact⟨_,_,h,λK' ao=>ao⟩
theorem aiQ{cO:aX}{args:List ag}{s:aV}{K:ag->aV->Prop}(h:lH (fK P gl) gl cO args s K):∃r s',K r s'/\∀K':ag->aV->Prop,K' r s'->lH (ht P gl bt) gl cO args s K':=by
 obtain⟨e,st,h1,h2⟩:=Qs h;cases e with
 |exit i=>exact h1.elim
 |normal=>
  simp at h1;split at h1
  .rename_i r aw;exact⟨_,_,h1.2,λK' ao=>h2 _ (by simp[aw];exact⟨h1.1,ao⟩)⟩
  .exact h1.elim
 |ret=>
  simp at h1;split at h1
  .rename_i r aw;exact⟨_,_,h1.2,λK' ao=>h2 _ (by simp[aw];exact⟨h1.1,ao⟩)⟩
  .exact h1.elim
theorem a7.ext{f:Nat}{cO:aX}{args:List ag}{s:aV}{Q:ag->aV->Prop}(h:a7 P f cO)(aw:lH (fK P gl) gl cO args s Q):∃r s',Q r s'/\bM P gl f args s r s':=by
 obtain⟨r,s',h1,h2⟩:=aiQ (bt:=And) aw;exact⟨r,s',h1,h.fh (h2 _ ⟨rfl,rfl⟩)⟩
end
def aBT:=@List.drop_drop
def aCv:=@Go.DataW.trod_string
def aCw:=@List.mem_map_of_mem
theorem axQ(h:p:=by simp[Value.oneCell']):p:=h
inductive ib where
 |bool
 |int (k:IntKind)
 |str
 |list (ah:Bool) (ts:List ib)
 deriving Inhabited,Repr
mutual
inductive za(N:Nat):ib->D->Prop
 |bool (b:Bool):za N .bool (.bool b)
 |int (k:IntKind) (n:Int):k.min<=n->n<=k.max->za N (.int k) (.int k n)
 |str (s:List UInt8):s.length<=N->za N .str (.str s)
 |list (ah:Bool) (ts:List ib) (l:List D):l.length<=N->qI N ah ts l->za N (.list ah ts) (.list ts.length l)
inductive qI(N:Nat):Bool->List ib->List D->Prop
 |nil (ah:Bool) (ts:List ib):qI N ah ts []
 |agg (ts:List ib) (cs:List D) (l:List D):ll N ts cs->qI N true ts l->qI N true ts (.agg cs::l)
 |one (t:ib) (x:D) (l:List D):za N t x->qI N false [t] l->qI N false [t] (x::l)
inductive ll(N:Nat):List ib->List D->Prop
 |nil:ll N [] []
 |cons (t:ib) (x:D) (ts:List ib) (xs:List D):za N t x->ll N ts xs->ll N (t::ts) (x::xs)
end
section
variable (P:Program)
def BP(f:Nat->Option (Bool×List ib)):List Field->Nat->Option (List ib)
 |[],_=>some []
 |x::xs,off=>match f x.type with
  |some (_,a)=>match BP f xs (off+a.length)with
   |some b=>if x.offset=off/\P.cellsOf x.type=a.length then some (a++b)else none
   |none=>none
  |none=>none
def nS:Nat->Nat->Option (Bool×List ib)
 |0,_=>none
 |n+1,t=>match P.underlying t with
  |some .bool=>some (false,[.bool])
  |some (.int k)=>some (false,[.int k])
  |some .string=>some (false,[.str])
  |some (.slice e)=>match nS n e with
   |some (ah,ts)=>if P.cellsOf e=ts.length/\0<ts.length then some (false,[.list ah ts])else none
   |none=>none
  |some (.struct fs)=>match BP P (nS n) fs.toList 0 with
   |some ts=>if P.cellsOf t=ts.length then some (true,ts)else none
   |none=>none
  |_=>none
end
structure BQ{H:Type}(B:DataW H->Nat):Prop where
 str:∀s,s.length<=B (.lit (.string s))
 slice:∀es sp,es.length<=B (.slice es sp)/\∀x,x∈es->B x<=B (.slice es sp)
 agg:∀ps x,x∈ps->B x<=B (.agg ps)
def G0:bJ:=λ_=>none
section
variable {P:Program}{W:World}{N off:Nat}
theorem ll.append{ts us:List ib}{xs ys:List D}(h:ll N ts xs)(h2:ll N us ys):ll N (ts++us) (xs++ys):=by
 induction ts generalizing xs with
 |nil=>cases h;grind
 |cons t ts ih=>cases h with|cons _ _ _ _ a b=>exact .cons _ _ _ _ a (ih b)
theorem ll.length{ts:List ib}{xs:List D}(h:ll N ts xs):xs.length=ts.length:=by
 induction ts generalizing xs with
 |nil=>cases h;rfl
 |cons t ts ih=>cases h with|cons _ _ _ _ a b=>simp_all
theorem aiR{b off j:Nat}:W.cell? ((⟨b,off,none⟩:Addr).add j)=W.cell? ⟨b,off+j,none⟩:=by
 grind[Addr.add]
theorem aiS{b off n:Nat}{vs:List Value}(h:W.cells? 0 ⟨b,off,none⟩ n=some vs)(h1:∀v,v∈vs->v.oneCell'=true):vs.length=n/\iK W G0 b off vs:=by
 obtain⟨_,aH,ay⟩:=World.cells?_some h;refine⟨aH,λj v hv=>⟨?_,λL n h=>by grind[G0],h1 v (List.mem_of_getElem? hv)⟩⟩;grind[aiR]
theorem iK.app{b off:Nat}{vs us:List Value}(h:iK W G0 b off vs)(h2:iK W G0 b (off+vs.length) us):iK W G0 b off (vs++us):=by
 intro j v hv;rcases aAv j vs.length with aL|aL
 .rw[aAp aL]at hv;exact h j v hv
 .rw[aAA aL]at hv;have:=h2 _ v hv;grind
def zb(ah:Bool)(xs:List D):D:=if ah then .agg xs else xs.getD 0 .dO
theorem qI.aiT{ah:Bool}{ts:List ib}{xs:List D}{l:List D}(dK:ah=false->∃t,ts=[t])(h:ll N ts xs)(h2:qI N ah ts l):qI N ah ts (zb ah xs::l)/\(zb ah xs).cells=xs:=by
 cases ah with
 |true=>exact⟨.agg _ _ _ h h2,rfl⟩
 |false=>
  obtain⟨t,rfl⟩:=dK rfl;cases h with
  |cons _ x _ xs h1 av=>
   cases av;refine⟨.one _ _ _ h1 h2,?_⟩;cases h1<;>rfl
theorem aiU{n t:Nat}{ts:List ib}(h:nS P n t=some (false,ts)):∃c,ts=[c]:=by
 cases n with
 |zero=>grind[nS]
 |succ n=>
  simp[nS]at h;grind
theorem Qt{H:Type}{f:Field->List Value->Option (DataW H×List MemPlace)}{B:DataW H->Nat}{cs:List Value}{g:Nat->Option (Bool×List ib)}:
  ∀{fs:List Field} {off:Nat} {ts:List ib} {ys:List (DataW H×List MemPlace)},BP P g fs off=some ts->(fs.mapM λx=>f x ((cs.drop x.offset).take (P.cellsOf x.type)))=some ys->(∀y,y∈ys->B y.1<=N)->
  (∀x,x∈fs->∀cs d ps ah ts,g x.type=some (ah,ts)->f x cs=some (d,ps)->B d<=N->∃xs,cn W G0 cs xs/\ll N ts xs/\∀v,v∈cs->v.oneCell'=true)->
  ∃xs,cn W G0 ((cs.drop off).take ts.length) xs/\ll N ts xs/\∀v,v∈(cs.drop off).take ts.length->v.oneCell'=true
 |[],off,ts,ys,h1,h2,av,aZ=>by
  simp[BP,azJ]at h1;subst h1;exact⟨[],by simpa using .nil,.nil,axt⟩
 |x::fs,off,ts,ys,h1,h2,av,aZ=>by
  simp[BP]at h1;split at h1
  .rename_i ah a br;split at h1
   .rename_i b aq;split at h1
    .rename_i ay;simp at h1;subst h1;simp only[aBL,aAB,azV,aB6,azJ]at h2;obtain⟨y,hy,auy,BR,rfl⟩:=h2;obtain⟨d,ps⟩:=y;obtain⟨xs,aj,aD,aW⟩:=aZ x axt _ d ps _ _ br hy (av (d,ps) axt);obtain⟨zs,f1,f2,f3⟩:=Qt (off:=off+a.length) aq BR (λy hy=>av y axv) (λx ak=>aZ x axv);rw[ay.1,ay.2]at aj aW;have auz:(cs.drop off).take (a++b).length=(cs.drop off).take a.length++(cs.drop (off+a.length)).take b.length:=by
      rw[az6,List.take_add,aBT]
     refine⟨xs++zs,?_,aD.append f2,?_⟩
     .grind[cn.append]
     grind
    simp_all
   simp_all
  simp_all
theorem Qu{Y:Type}{b sz:Nat}{ah:Bool}{ts:List ib}(cm:sz=ts.length)(dK:ah=false->∃t,ts=[t]):
  ∀{ys:List Y} {k:Nat},(∀i y,ys[i]?=some y->∃vs xs,vs.length=sz/\iK W G0 b (off+(k+i)*sz) vs/\cn W G0 vs xs/\ll N ts xs)->
  ∃(l:List D) (vs:List Value),l.length=ys.length/\(∀d,d∈l->d.cells.length=sz)/\iK W G0 b (off+k*sz) vs/\cn W G0 vs (l.flatMap D.cells)/\qI N ah ts l
 |[],k,_=>⟨[],[],rfl,axt,λj v hv=>axu,.nil,.nil _ _⟩
 |y::ys,k,h=>by
  obtain⟨vs,xs,aj,aD,aW,bQ⟩:=h 0 y rfl;obtain⟨l,us,f1,f2,f3,f4,f5⟩:=Qu cm dK (ys:=ys) (k:=k+1) λi y hy=>by
   obtain⟨vs,xs,g1,g2,g3⟩:=h (i+1) y axu;exact⟨vs,xs,g1,by rw[show k+1+i=k+(i+1)by omega];omega,g3⟩
  obtain⟨g1,g2⟩:=qI.aiT dK bQ f5;refine⟨zb ah xs::l,vs++us,axv,?_,?_,?_,g1⟩
  .intro d a6;rcases azY.1 a6 with rfl|a6
   all_goals grind[ll.length]
  all_goals grind[iK.app,cn.append]
theorem aiV{H:Type}{enc:TypeId×Value->H}{sp:Nat->Bool}{B:DataW H->Nat}(eD:BQ B):∀(n fuel t:Nat) (cs:List Value) (d:DataW H) (ps:List MemPlace) (ah:Bool) (ts:List ib),
  nS P n t=some (ah,ts)->DataW.trod enc P W 0 sp true fuel t cs=some (d,ps)->B d<=N->∃xs,cn W G0 cs xs/\ll N ts xs/\∀v,v∈cs->v.oneCell'=true:=by
 intro n;induction n with
 |zero=>grind[nS]
 |succ n ih=>
  intro fuel t cs d ps ah ts h1 h2 b9;cases fuel with
  |zero=>simp_all[DataW.trod]
  |succ fuel=>
   simp[nS]at h1;split at h1
   .rename_i hu;obtain⟨rfl,rfl⟩:=h1;obtain⟨b,rfl,_⟩:=DataW.trod_bool hu h2;exact⟨_,.cons _ _ _ _ (.bool _) .nil,.cons _ _ _ _ (.bool _) .nil,axQ⟩
   .rename_i k hu;obtain⟨rfl,rfl⟩:=h1;obtain⟨m,rfl,_,hw⟩:=DataW.trod_int hu h2;simp[Lit.wf,azH,azN]at hw;exact⟨_,.cons _ _ _ _ (.int _ _) .nil,.cons _ _ _ _ (.int _ _ hw.1 hw.2) .nil,axQ⟩
   .rename_i hu;obtain⟨rfl,rfl⟩:=h1;obtain⟨m,rfl,he,_⟩:=aCv hu h2;simp at he;obtain⟨rfl,rfl⟩:=he;exact⟨_,.cons _ _ _ _ (.str _ _ rfl) .nil,.cons _ _ _ _ (.str _ (aAs (eD.str _) b9)) .nil,axQ⟩
   .rename_i e hu;split at h1
    .rename_i aiW oA he;split at h1
     .rename_i ay;simp[azJ,aAd]at h1;obtain⟨rfl,rfl⟩:=h1;have dK:aiW=false->∃t,oA=[t]:=λh=>by grind[aiU]
      rcases DataW.trod_slice hu h2 with⟨rfl,_⟩|⟨a,len,cap,elems,rest,n',bm,rfl,a6,_,qj,_,hlen,JE,_,_⟩
      .exact⟨_,.cons _ _ _ _ (.kK _ _ _) .nil,.cons _ _ _ _ (.list _ _ _ (azF _) (.nil _ _)) .nil,axQ⟩
      .simp[aAd]at a6;obtain⟨rfl,_⟩:=a6;cases bm;have hs:=eD.slice (elems.map (·.1)) (rest.map (·.1));rcases aB3 len with h0|h0
       .subst h0;exact⟨_,.cons _ _ _ _ (.kK _ _ oA.length) .nil,.cons _ _ _ _ (.list _ _ _ (azF _) (.nil _ _)) .nil,axQ⟩
       .obtain⟨b,off,spot⟩:=a;have aiX:spot=none:=by
         have:=JE 0 h0;rw[azQ axs,azV]at this;obtain⟨vs,jf,_⟩:=this;obtain⟨_,aH,BD⟩:=World.cells?_some jf;have h1:=BD 0 axs;rw[azQ axs]at h1;simp[aA0,Addr.add,if_true]at h1;unfold World.cell? at h1;split at h1
         .simp_all
         simp_all
        subst aiX;obtain⟨l,vs,f1,f2,f3,f4,f5⟩:=Qu (W:=W) (N:=N) (off:=off) (b:=b) (ys:=elems) (k:=0) (sz:=oA.length) rfl dK λi y hy=>by
         have hi:i<len:=axv;have:=JE i hi;rw[hy,azV]at this;obtain⟨us,lf,aC⟩:=this;obtain⟨d,ps⟩:=y;obtain⟨xs,aj,aD,aW⟩:=ih _ _ _ _ _ _ _ he aC (aAs (hs.2 d (aAn.2 ⟨(d,ps),aAe hy,rfl⟩)) b9);rw[ay.1]at lf;have aiY:(⟨b,off,none⟩:Addr).add (i*oA.length)=⟨b,off+i*oA.length,none⟩:=by
          grind[Addr.add]
         rw[aiY]at lf;obtain⟨c1,c2⟩:=aiS lf aW;grind
        rw[aA0,aAj]at f3;rw[hlen]at f1;exact⟨_,.cons _ _ _ _ (.list b off len cap oA.length l vs f1.symm qj f2 f3 f4) .nil,
         .cons _ _ _ _ (.list _ _ _ axv f5) .nil,axQ⟩
     simp_all
    simp_all
   .rename_i fs hu;split at h1
    .rename_i oA he;split at h1
     .rename_i ay;simp only[azJ,aAd]at h1;obtain⟨rfl,rfl⟩:=h1;unfold DataW.trod at h2;simp only[hu]at h2;split at h2
      .rename_i aH;simp only[aAt,aAd]at h2;obtain⟨ys,hy,rfl,rfl⟩:=h2;obtain⟨xs,aj,aD,aW⟩:=Qt (B:=B) (f:=λf cs=>DataW.trod enc P W 0 sp true fuel f.type cs) (off:=0) he hy (λy hy=>aAs (eD.agg _ _ (aCw hy)) b9)
        (λx _ cs d ps ah ts h1 h2 av=>ih fuel _ cs d ps ah ts h1 h2 av)
       grind
      simp_all
     simp_all
    simp_all
   simp_all
end
theorem axy(h:p:=by cases h):p:=h
section
variable {P:Program}{W:World}{N:Nat}
theorem aiZ{H:Type}{enc:TypeId×Value->H}{sp:Nat->Bool}{B:DataW H->Nat}(eD:BQ B){n base t:Nat}{v:Value}{d:DataW H}{ps:List MemPlace}{ah:Bool}{ts:List ib}
  (aC:nS P n t=some (ah,ts)) (hval:Value.okWide P W .any base t v) (a6:DataW.Trod enc P W 0 sp true t v d ps) (b9:B d<=N):∃xs,Rd W G0 v (zb ah xs)/\ll N ts xs:=by
 obtain⟨fuel,bm⟩:=a6;obtain⟨xs,h1,h2,av⟩:=aiV eD n fuel t _ _ _ _ _ aC bm b9;refine⟨xs,?_,h2⟩;cases n with
 |zero=>grind[nS]
 |succ n=>
  have dK:ah=false->v.cells.toList=[v]->Rd W G0 v (zb ah xs):=by
   intro br hv;subst br;rw[hv]at h1;cases h1 with
   |cons _ x _ xs h1 av=>cases av;exact h1
  simp[nS]at aC;unfold Value.okWide at hval;split at aC
  .rename_i hu;simp only[azJ,aAd]at aC;refine dK aC.1.symm ?_;simp[Cell.okWide,hu]at hval;cases v<;>simp[Cell.ok,hu]at hval<;>rfl
  .rename_i hu;simp only[azJ,aAd]at aC;refine dK aC.1.symm ?_;simp[Cell.okWide,hu]at hval;cases v<;>simp[Cell.ok,hu]at hval<;>rfl
  .rename_i hu;simp only[azJ,aAd]at aC;refine dK aC.1.symm ?_;simp[Cell.okWide,hu]at hval;cases v<;>simp[Cell.ok,hu]at hval<;>rfl
  .rename_i e hu;split at aC
   .split at aC
    .simp only[azJ,aAd]at aC;refine dK aC.1.symm ?_;simp[Cell.okWide,hu]at hval;cases v<;>simp[Cell.ok,hu]at hval<;>rfl
    simp_all
   simp_all
  .rename_i fs hu;split at aC
   .split at aC
    .simp only[azJ,aAd]at aC;rw[hu]at hval;simp at hval;obtain⟨cs,rfl,_⟩:=hval;rw[<-aC.1];exact .agg _ _ h1
    simp_all
   simp_all
  simp_all
theorem JF{W W':World}{G':bJ}(h:Good W G0 W' G'):∀i,i<W.heap.size->W'.heap[i]?=W.heap[i]?:=λi hi=>(h.il i hi (.inl rfl)).1
theorem ai0{W W':World}{G':bJ}{may:MemPlace->Prop}(h:Good W G0 W' G'):W.keptBut W' may:=by
 refine⟨h.os,h.out,λi hi=> ?_⟩;grind[JF]
def JG(W:World)(gl:Nat->List D):Prop:=∀g,∃vs,iK W G0 g 0 vs/\cn W G0 vs (gl g)/\((gl g).length=0\/∃c E fz,x8 W G0 g (.cells c E fz)/\c.size=(gl g).length)
theorem ai1{gl:Nat->List D}(h:JG W gl):o5 gl W G0:=by
 refine⟨λg=> ?_,λg=> ?_⟩
 .obtain⟨vs,h1,h2,_⟩:=h g;have:=Rd.eY g 0 0 vs _ h1 h2;omega
 .obtain⟨vs,_,_,av⟩:=h g;omega
inductive tA(N:Nat):List (Bool×List ib)->List ag->Prop
 |nil:tA N [] []
 |cons (ah:Bool) (ts:List ib) (xs:List D) (lU:List (Bool×List ib)) (fj:List ag):ll N ts xs->tA N lU fj->tA N ((ah,ts)::lU) (.d (zb ah xs)::fj)
theorem Qv{H:Type}{enc:TypeId×Value->H}{sp:Nat->Bool}{B:DataW H->Nat}(eD:BQ B){n base:Nat}:∀{ts:List Nat} {vs:List Value} {ds:List (DataW H)} {ps:List MemPlace} {lU:List (Bool×List ib)},
  ts.mapM (nS P n)=some lU->(∀(j:Nat) t v,ts[j]?=some t->vs[j]?=some v->Value.okWide P W .any base t v)->DataW.TrodAll enc P W 0 sp true ts vs ds ps->(∀d,d∈ds->B d<=N)->
  ∃fj,tA N lU fj/\cf W G0 [] vs fj/\ds.length=ts.length
 |[],vs,ds,ps,lU,h1,h2,av,aZ=>by
  simp at h1;subst h1;cases vs with
  |nil=>cases ds with
   |nil=>exact⟨[],.nil,.nil,rfl⟩
   |cons _ _=>exact av.elim
  |cons _ _=>exact av.elim
 |t::ts,vs,ds,ps,lU,h1,h2,av,aZ=>by
  simp only[aBL,aAB,azV,aB6,azJ]at h1;obtain⟨⟨ah,auA⟩,ay,auB,aC,rfl⟩:=h1;cases vs with
  |nil=>exact av.elim
  |cons v vs=>cases ds with
   |nil=>exact av.elim
   |cons d ds=>
    obtain⟨p,q,aj,aD,_⟩:=av;obtain⟨xs,f1,f2⟩:=aiZ eD ay (h2 0 t v rfl rfl) aj (aZ d axt);obtain⟨fj,g1,g2,g3⟩:=Qv eD aC (λj t v aC hv=>h2 (j+1) t v axu axu) aD (λd a6=>aZ d axv);exact⟨_,.cons _ _ _ _ _ f2 g1,.cons _ _ _ _ (.d _ _ f1) g2,axv⟩
theorem ai2{W W':World}{G':bJ}(h:Good W G0 W' G'){p:MemPlace}(hp:p.block<W.heap.size):W.sameAt W' p:=by
 cases p with
 |cell b o=>exact aBN (w:=W) (JF h b hp)
 |map b=>exact JF h b hp
theorem Qw{H:Type}{enc:TypeId×Value->H}{W W':World}{G':bJ}(aH:laidOutB P=true)(h:Good W G0 W' G'):∀{ts:List Nat} {vs:List Value} {ds:List (DataW H)} {ps:List MemPlace},
  (∀t,t∈ts->P.readableRec t=true/\t<P.types.size)->DataW.TrodAll enc P W 0 (λ_=>true) true ts vs ds ps->(∀x,x∈ps->x.block<W.heap.size)->DataW.TrodAll enc P W' 0 (λb=>decide (b<W.heap.size)) true ts vs ds ps
 |[],vs,ds,ps,_,h2,_=>by
  cases vs with
  |nil=>cases ds with
   |nil=>exact h2
   |cons _ _=>exact h2.elim
  |cons _ _=>exact h2.elim
 |t::ts,vs,ds,ps,h1,h2,av=>by
  cases vs with
  |nil=>exact h2.elim
  |cons v vs=>cases ds with
   |nil=>exact h2.elim
   |cons d ds=>
    obtain⟨p,q,aj,aD,rfl⟩:=h2;obtain⟨bU,b4⟩:=h1 t axt;exact⟨p,q,WideElems.Trod_stays aH bU b4 aj (λx ak=>ai2 h (av x (by simp[ak]))) (λx ak=>by simpa using av x (by simp[ak])),
     Qw aH h (λt aC=>h1 t (by simp[aC])) aD (λx ak=>av x (by simp[ak])),rfl⟩
theorem ai3{H:Type}{enc:TypeId×Value->H}{spec:ChangeSpec}{fn:Func}{f tb n base:Nat}{gl:Nat->List D}{B:DataW H->Nat}(eD:BQ B){lU:List (Bool×List ib)}{args:Array Value}{ds gs:List (DataW H)}{before:List MemPlace}
  (Qx:spec.vars=[]) (wc:ds.length=fn.params.size->spec.fn H (ds++gs)={results:=[.lit (.bool true)],args:=ds})
  (EO:fn.resultTypes= #[tb]) (aq:P.underlying tb=some .bool) (aH:laidOutB P=true) (aw:(fn.params.toList.all λt=>P.readableRec t&&decide (t<P.types.size))=true)
  (EW:fn.params.toList.mapM (nS P n)=some lU) (AW:JG W gl)
  (hval:∀(j:Nat) t v,fn.params[j]?=some t->args[j]?=some v->Value.okWide P W .any base t v)
  (hW:DataW.Whole enc P fn.params.toList spec.vars false W args.toList ds gs before) (b9:∀d,d∈ds->B d<=N)
  (tB:∀fj,tA N lU fj->bM P gl f fj [] (.d (.bool true)) []):
  Calls P f args W λe W'=>∃v,e=.returned v/\spec.post enc P fn false true false false W args v W':=by
 have hW':=hW;obtain⟨p,q,hA,hV,rfl,hfz,hnd⟩:=hW;obtain⟨fj,br,dt,hlen⟩:=Qv eD EW (λj t v aC hv=>hval j t v axu axu) hA b9;obtain⟨_,nH⟩:=tB fj br;have rq:args=⟨args.toList⟩:=axt;have ay:=nH W G0 [] args.toList ⟨rfl,λi b o h=>axt⟩ (ai1 AW) (λb L n h=>by grind[G0]) dt;refine ay.mono ?_;rintro e W' ⟨v,G',ρ',rfl,hv,_,_,aE,_⟩;have ai4:v=.bool true:=by
  have hA:=hv;cases hA with
  |d _ _ h=>cases h;rfl
 subst ai4;rw[Qx]at hV;obtain⟨rfl,rfl⟩:=ChangeShapes.trodVars_none hV;have bm:=wc axs;refine⟨_,rfl,ds,[],p++[],[],p,[],hW',?_,?_,?_,ai0 aE,λh=>axy⟩
 .rw[bm];have hs:fn.resultTypes.size=1:=axv;rw[hs,EO];exact ChangeShapes.trodAll_mk1 (RowKit.shut_bool aq true)
 .rw[bm];refine Qw aH aE (λt aC=> ?_) hA (λx ak=>hW'.lt x axv);grind
 .rw[bm,Qx];rfl
end
noncomputable def af.cD(st:af)(k:Nat)(v:ag):af:=⟨λj=>@Bool.rec (λ_=>ag) (st.aP j) v (Nat.beq j k),st.bI,st.s⟩
theorem af.ai5(st:af)(k:Nat)(v:ag):st.cD k v=st.set k v:=by
 unfold af.cD af.set;congr 1;funext j;simp only[cW];cases Nat.beq j k<;>rfl
section
variable {R:Type}(A:mc R)(gl:Nat->List D)
noncomputable def Qy(d:Nat)(x:O)(st:af)(K:af->R):R:=
 K (st.cD d (snap (aK gl st x)))
noncomputable def Qz(d:Nat)(s:Nat)(st:af)(K:af->R):R:=
 K ((st.cD s .undef).cD d (st.aP s))
noncomputable def QA(d:Nat)(x:O)(st:af)(K:af->R):R:=
 K ((kill st x).cD d (aK gl st x))
noncomputable def QB(d:Nat)(c:O)(a:O)(b:O)(st:af)(K:af->R):R:=
 match aK gl st c with
  |.d (.bool t)=>cond t (K (st.cD d (snap (aK gl st a)))) (K (st.cD d (snap (aK gl st b))))
  |_=>A.fail
noncomputable def QC(d:Nat)(z:List ag)(st:af)(K:af->R):R:=
 match st.bI d with
  |none=>K ((st.dX d z).cD d (.dT d 0))
  |some _=>A.fail
noncomputable def QD(d:Nat)(x:O)(n:Nat)(st:af)(K:af->R):R:=
 match st.bI d with
  |none=>
   let cs:=cellsOf (gJ (aK gl st x));A.guard (Nat.beq cs.length n&&cs.all (dU depth)) (K ((st.dX d cs).cD d (.dT d 0)))
  |some _=>A.fail
noncomputable def QE(d:Nat)(z:List ag)(st:af)(K:af->R):R:=
 K ({st with s:=st.s++[b3.box z]}.cD d (.ptr st.s.length 0))
noncomputable def QF(d:Nat)(x:O)(n:Nat)(st:af)(K:af->R):R:=
  let cs:=cellsOf (gJ (aK gl st x));A.guard (Nat.beq cs.length n&&cs.all (dU depth)) (K ({st with s:=st.s++[b3.box cs]}.cD d (.ptr st.s.length 0)))
noncomputable def QG(d:Nat)(z:List ag)(ps:List (Nat×Nat×O))(st:af)(K:af->R):R:=
 match oY gl st z ps with
  |some cs=>K (st.cD d (.agg cs))
  |none=>A.fail
noncomputable def QH(d:Nat)(sz:Nat)(xs:List O)(st:af)(K:af->R):R:=
 match elems gl st sz xs with
  |some l=>K (st.cD d (.own sz l))
  |none=>A.fail
noncomputable def QI(d:Nat)(a:O)(t:Nat)(off:Nat)(n:Nat)(ah:Bool)(st:af)(K:af->R):R:=
 match aK gl st a,st.bI t with
  |.dT ek dI,some cs=>
   A.guard (Nat.beq ek t&&Nat.beq dI off&&Nat.ble (off+n) cs.length) (K (st.cD d (valOf cs off n ah)))
  |_,_=>A.fail
noncomputable def QJ(d:Nat)(a:O)(t:Nat)(off:Nat)(st:af)(K:af->R):R:=
 match aK gl st a,st.bI t with
  |.dT ek dI,some cs=>
   A.guard (Nat.beq ek t&&Nat.beq dI off&&Nat.blt off cs.length) (K ((st.dX t (cs.set off .undef)).cD d (cs.getD off .undef)))
  |_,_=>A.fail
noncomputable def QK(a:O)(t:Nat)(off:Nat)(x:O)(n:Nat)(st:af)(K:af->R):R:=
 match aK gl st a,st.bI t with
  |.dT ek dI,some cs=>
   let vs:=cellsOf (aK gl st x);A.guard (Nat.beq ek t&&Nat.beq dI off&&Nat.beq vs.length n&&Nat.ble (off+n) cs.length&&vs.all kc) (K ((kill st x).dX t (putCells cs off vs)))
  |_,_=>A.fail
noncomputable def QL(d:Nat)(a:O)(n:Nat)(ah:Bool)(st:af)(K:af->R):R:=
 match aK gl st a with
  |.ptr i off=>match st.s.getD i .dead with
   |.box cs=>A.guard (Nat.ble (off+n) cs.length&&(ah||Nat.beq n 1)) (K (st.cD d (valOf cs off n ah)))
   |_=>A.fail
  |.d (.eY cs off)=>A.guard (Nat.ble (off+n) cs.length) (K (st.cD d (.d (cond ah (.agg ((cs.drop off).take n)) (cs.getD off .dO)))))
  |_=>A.fail
noncomputable def QM(d:Nat)(a:O)(st:af)(K:af->R):R:=
 match aK gl st a with
  |.ptr i off=>match st.s.getD i .dead with
   |.box cs=>A.guard (Nat.blt off cs.length) (K ({st with s:=st.s.set i (.box (cs.set off .undef))}.cD d (cs.getD off .undef)))
   |_=>A.fail
  |_=>A.fail
noncomputable def QN(a:O)(x:O)(n:Nat)(st:af)(K:af->R):R:=
 match aK gl st a with
  |.ptr i off=>match st.s.getD i .dead with
   |.box cs=>
    let vs:=cellsOf (aK gl st x);A.guard (Nat.beq vs.length n&&Nat.ble (off+n) cs.length&&vs.all kc) (K {kill st x with s:=st.s.set i (.box (putCells cs off vs))})
   |_=>A.fail
  |_=>A.fail
noncomputable def QO(d:Nat)(x:O)(st:af)(K:af->R):R:=
 match aK gl st x with
  |.ptr i o=>K (st.cD d (.ptr i o))
  |.dT t o=>K (st.cD d (.dT t o))
  |.d (.eY cs o)=>K (st.cD d (.d (.eY cs o)))
  |.d (.fn f)=>K (st.cD d (.d (.fn f)))
  |.func f a c=>K (st.cD d (.func f a c))
  |_=>A.fail
noncomputable def QP(d:Nat)(op:BinOp)(x:O)(y:O)(st:af)(K:af->R):R:=
 match aK gl st x,aK gl st y with
  |.d (.int k a),.d (.int k' b)=>match vP op k a b with
   |some r=>A.guard (decide (0<=b)) (K (st.cD d (.d r)))
   |none=>match An op k a b with
    |some (ok,r)=>A.guard (decide (k=k')) (A.guard ok (K (st.cD d (.d r))))
    |none=>A.fail
  |.d (.str a),.d (.str b)=>match Ao op a b with
   |some (ok,r)=>A.guard ok (K (st.cD d (.d r)))
   |none=>A.fail
  |_,_=>A.fail
noncomputable def QQ(d:Nat)(neg:Bool)(ah:Bool)(ks:List Nat)(x:O)(y:O)(st:af)(K:af->R):R:=
 match hl (aK gl st x),hl (aK gl st y)with
  |some a,some b=>A.guard (ft ah a&&ft ah b) <| match cF ks a.cells b.cells with
   |some r=>K (st.cD d (.d (.bool (cond neg (!r) r))))
   |none=>A.fail
  |_,_=>A.fail
noncomputable def QR(d:Nat)(op:UnOp)(x:O)(st:af)(K:af->R):R:=
 match op,aK gl st x with
  |.not,.d (.bool b)=>K (st.cD d (.d (.bool (!b))))
  |.neg,.d (.int k n)=>K (st.cD d (.d (.int k (k.wrap (0-n)))))
  |.xor,.d (.int k n)=>K (st.cD d (.d (.int k (k.wrap (BitVec.ofInt k.bits (if k.signed then -1 else k.max)^^^BitVec.ofInt k.bits n).toNat))))
  |_,_=>A.fail
noncomputable def QS(d:Nat)(k:IntKind)(x:O)(st:af)(K:af->R):R:=
 match aK gl st x with
  |.d (.int _ n)=>K (st.cD d (.d (.int k (k.wrap n))))
  |_=>A.fail
noncomputable def QT(d:Nat)(x:O)(st:af)(K:af->R):R:=
 match aK gl st x with
  |.d (.str s)=>K (st.cD d (.d (.str s)))
  |_=>A.fail
noncomputable def QU(d:Nat)(x:O)(st:af)(K:af->R):R:=
 match aK gl st x with
  |.d (.str s)=>K (st.cD d (.d (.list 1 (s.map gj))))
  |_=>A.fail
noncomputable def QV(d:Nat)(x:O)(st:af)(K:af->R):R:=
 match gK (aK gl st x)with
  |some (_,l)=>match oc l with
   |some s=>K (st.cD d (.d (.str s)))
   |none=>A.fail
  |none=>A.fail
noncomputable def QW(d:Nat)(x:O)(off:Nat)(st:af)(K:af->R):R:=
 match aK gl st x with
  |.ptr i o=>K (st.cD d (.ptr i (o+off)))
  |.dT t o=>K (st.cD d (.dT t (o+off)))
  |.d (.eY cs o)=>K (st.cD d (.d (.eY cs (o+off))))
  |_=>A.fail
noncomputable def QX(d:Nat)(x:O)(off:Nat)(n:Nat)(ah:Bool)(st:af)(K:af->R):R:=
  let cs:=cellsOf (aK gl st x);A.guard (vN (aK gl st x)&&Nat.ble (off+n) cs.length) (K (st.cD d (valOf cs off n ah)))
noncomputable def QY(d:Nat)(x:O)(i:O)(sz:Nat)(st:af)(K:af->R):R:=
 match aK gl st i with
  |.d (.int _ n)=>match aK gl st x with
   |.aS j off len _ h5=>A.guard (Nat.beq h5 sz&&decide (0<=n)&&decide (n<len)) (K (st.cD d (.ptr j (off+n.toNat*sz))))
   |v=>match gK v with
    |some (h5,l)=>A.guard (Nat.beq h5 sz&&decide (0<=n)&&decide (n<l.length)) (K (st.cD d (.d (.eY (l.getD n.toNat .dO).cells 0))))
    |none=>A.fail
  |_=>A.fail
noncomputable def QZ(d:Nat)(x:O)(i:O)(len:Nat)(sz:Nat)(st:af)(K:af->R):R:=
 match aK gl st i with
  |.d (.int _ n)=>A.guard (decide (0<=n)&&decide (n<len)) <| match aK gl st x with
   |.ptr j o=>K (st.cD d (.ptr j (o+n.toNat*sz)))
   |.dT t o=>K (st.cD d (.dT t (o+n.toNat*sz)))
   |.d (.eY cs o)=>K (st.cD d (.d (.eY cs (o+n.toNat*sz))))
   |_=>A.fail
  |_=>A.fail
noncomputable def Q0(d:Nat)(x:O)(i:O)(st:af)(K:af->R):R:=
 match aK gl st x,aK gl st i with
  |.d (.str s),.d (.int _ n)=>A.guard (decide (0<=n)&&decide (n<s.length)) (K (st.cD d (.d (gj (s.getD n.toNat 0)))))
  |_,_=>A.fail
noncomputable def Q5(d:Nat)(x:O)(lo:Option O)(hi:Option O)(st:af)(K:af->R):R:=
 match aK gl st x with
  |.d (.str s)=>match bound gl st 0 lo,bound gl st s.length hi with
   |some l,some h=>A.guard (decide (0<=l)&&decide (l<=h)&&decide (h<=s.length)) (K (st.cD d (.d (.str ((s.drop l.toNat).take (h.toNat-l.toNat))))))
   |_,_=>A.fail
  |_=>A.fail
noncomputable def Q6(d:Nat)(hn:Nat)(x:O)(lo:Option O)(hi:Option O)(mx:Option O)(st:af)(K:af->R):R:=
 match aK gl st x with
  |.aS j off len cap sz=>match bound gl st 0 lo,bound gl st len hi,bound gl st cap mx with
   |some l,some h,some m=>A.guard (Nat.beq sz hn&&decide (0<=l)&&decide (l<=h)&&decide (h<=m)&&decide (m<=cap)) (K (st.cD d (cond (decide (l=m)) (.d (.list sz [])) (.aS j (off+l.toNat*sz) (h.toNat-l.toNat) (m.toNat-l.toNat) sz))))
   |_,_,_=>A.fail
  |v=>match gK v with
  |some (sz,s)=>match bound gl st 0 lo,bound gl st s.length hi,bound gl st s.length mx with
   |some l,some h,some m=>A.guard (Nat.beq sz hn&&decide (0<=l)&&decide (l<=h)&&decide (h<=m)&&decide (m<=s.length)) (K (st.cD d (.d (.list sz ((s.drop l.toNat).take (h.toNat-l.toNat))))))
   |_,_,_=>A.fail
  |none=>A.fail
noncomputable def Q7(d:Nat)(x:O)(st:af)(K:af->R):R:=
 match aK gl st x with
  |.aS _ _ _ _ sz=>K (st.cD d (.own sz []))
  |v=>match gK v with
   |some (sz,_)=>K (st.cD d (.own sz []))
   |none=>A.fail
noncomputable def Q8(d:Nat)(f:Nat)(first:List O)(gD:List O)(st:af)(K:af->R):R:=
 match first,gD with
  |[],[]=>K (st.cD d (.d (.fn f)))
  |_,_=>
   let fj:=first.map λx=>cE (snap (aK gl st x))
   let cs:=gD.map λx=>cE (snap (aK gl st x));A.guard (fj.all (dU depth)&&cs.all (dU depth)) (K (st.cD d (.func f fj cs)))
noncomputable def Q9(d:Option Nat)(f:O)(args:List O)(st:af)(K:af->R):R:=
 match aK gl st f with
  |.d (.fn f)=>kG A f (args.map (jC gl st)) st.s λr s'=>K ({st with s:=s'}.dA d r)
  |.func f a c=>kG A f (a++args.map (jC gl st)++c) st.s λr s'=>K ({st with s:=s'}.dA d r)
  |_=>A.fail
noncomputable def Q'(d:Nat)(s:Nat)(x:O)(sz:Nat)(b2:Nat)(st:af)(K:af->R):R:=
 hz A gl false false d s x sz b2 st K
noncomputable def Ra(d:Nat)(str:Bool)(x:O)(st:af)(K:af->R):R:=
 match aK gl st x with
  |.aS _ _ len _ _=>A.guard (!str) (K (st.cD d (.d (.int .i64 len))))
  |.d (.str s)=>A.guard str (K (st.cD d (.d (.int .i64 s.length))))
  |v=>match gK v with
   |some (_,l)=>A.guard (!str) (K (st.cD d (.d (.int .i64 l.length))))
   |none=>A.fail
noncomputable def Rb(d:Nat)(x:O)(i:Nat)(st:af)(K:af->R):R:=
 match aK gl st x with
  |.tuple vs=>A.guard (Nat.blt i vs.length) (K (st.cD d (vs.getD i .undef)))
  |_=>A.fail
noncomputable def Rc(d:Nat)(st:af)(K:af->R):R:=
 K ({st with s:=st.s++[b3.map []]}.cD d (.map st.s.length))
noncomputable def Re(d:Nat)(ah:Bool)(ks:List Nat)(m:O)(k:O)(z:ag)(ok:Bool)(st:af)(K:af->R):R:=
 match hl (aK gl st k)with
  |none=>A.fail
  |some k=>A.guard (ft ah k&&(cF ks k.cells k.cells).isSome) <| match aK gl st m with
   |.d .hj=>K (st.cD d (cond ok (.tuple [cE z,.d (.bool false)]) (cE z)))
   |.d (.k6 kl vl)=>match fu ah ks k ((kl.zip vl).map λe=>(e.1,.d e.2)) 0 with
    |some none=>K (st.cD d (cond ok (.tuple [cE z,.d (.bool false)]) (cE z)))
    |some (some j)=>match vl[j]? with
     |some v=>K (st.cD d (cond ok (.tuple [.d v,.d (.bool true)]) (.d v)))
     |none=>A.fail
    |none=>A.fail
   |.map i=>match st.s.getD i .dead with
    |.map es=>match fu ah ks k es 0 with
     |some none=>K (st.cD d (cond ok (.tuple [cE z,.d (.bool false)]) (cE z)))
     |some (some j)=>match es[j]? with
      |some e=>K (st.cD d (cond ok (.tuple [e.2,.d (.bool true)]) e.2))
      |none=>A.fail
     |none=>A.fail
    |_=>A.fail
   |_=>A.fail
noncomputable def Rf(ah:Bool)(ks:List Nat)(m:O)(k:O)(x:O)(st:af)(K:af->R):R:=
 match aK gl st m,hl (aK gl st k)with
  |.map i,some k=>match st.s.getD i .dead with
   |.map es=>match fu ah ks k es 0 with
    |some j=>A.guard (dU depth (cE (aK gl st x))&&ft ah k&&(cF ks k.cells k.cells).isSome) (K {st with s:=st.s.set i (.map (nD es k (cE (aK gl st x)) j))})
    |none=>A.fail
   |_=>A.fail
  |_,_=>A.fail
noncomputable def Rg(d:Nat)(lt:Bool)(x:O)(y:O)(st:af)(K:af->R):R:=
 match aK gl st x,aK gl st y with
  |.d (.int k a),.d (.int k' b)=>A.guard (decide (k=k')) (K (st.cD d (.d (.int k (cond (cond lt (decide (b<a)) (decide (a<b))) b a)))))
  |_,_=>A.fail
noncomputable def Rh(d:Nat)(neg:Bool)(hk:Nat)(x:O)(st:af)(K:af->R):R:=
 match hk with
  |0=>match vO (aK gl st x)with
   |some (_,_::_)=>K (st.cD d (.d (.bool neg)))
   |some (_,[])=>A.both (K (st.cD d (.d (.bool neg)))) (K (st.cD d (.d (.bool (!neg)))))
   |none=>A.fail
  |1=>match aK gl st x with
   |.map _=>K (st.cD d (.d (.bool neg)))
   |.d .hj=>K (st.cD d (.d (.bool (!neg))))
   |_=>A.fail
  |2=>match aK gl st x with
   |.func _ _ _|.d (.fn _)=>K (st.cD d (.d (.bool neg)))
   |.d .k5=>K (st.cD d (.d (.bool (!neg))))
   |_=>A.fail
  |4=>match aK gl st x with
   |.d (.iface _ _)|.d .hL=>K (st.cD d (.d (.bool neg)))
   |.d .ig=>K (st.cD d (.d (.bool (!neg))))
   |_=>A.fail
  |3=>match aK gl st x with
   |.ptr _ _|.d (.eY _ _)=>K (st.cD d (.d (.bool neg)))
   |.d .dO=>K (st.cD d (.d (.bool (!neg))))
   |_=>A.fail
  |_=>A.fail
noncomputable def Ri(d:Option Nat)(f:Nat)(args:List O)(st:af)(K:af->R):R:=
  let vs:=args.map λx=>cE (snap (aK gl st x));A.guard ((vs.flatMap (refs depth)).isEmpty&&vs.all (dU depth)) <| A.call f vs [] λr s'=>A.guard (s'.isEmpty&&(refs depth r).isEmpty) (K (st.dA d r))
noncomputable def Rj(d:Nat)(k:Nat)(x:O)(y:O)(st:af)(K:af->R):R:=
 match aK gl st x,aK gl st y with
  |.d (.str a),.d (.str b)=>match G3 k a b with
   |some r=>K (st.cD d (.d r))
   |none=>A.fail
  |_,_=>A.fail
noncomputable def Rk(_a0:Option Nat)(st:af)(K:af->R):R:=
 A.fail
noncomputable def Rl(d:Option Nat)(st:af)(K:af->R):R:=
 K (st.dA d .undef)
noncomputable def Rm(d:Nat)(s:Nat)(z:Nat)(i:Nat)(x:O)(sz:Nat)(b2:Nat)(st:af)(K:af->R):R:=
 match st.aP s,sx (st.aP z),st.aP i,hl (aK gl st x)with
  |.own ej l,some (dw,[_]),.d (.int _ n),some kH=>
   A.guard (Nat.beq ej sz&&Nat.beq dw sz&&decide (n=l.length)&&Nat.ble (l.length+1) b2&&Nat.beq kH.cells.length sz&&kH.cells.all jt) (K ((st.cD s .undef).cD d (.own sz (l++[kH]))))
  |_,_,_,_=>A.fail
noncomputable def Rn(d:Nat)(s:Nat)(x:O)(sz:Nat)(b2:Nat)(st:af)(K:af->R):R:=
 hz A gl true false d s x sz b2 st K
noncomputable def Ro(d:Nat)(s:Nat)(x:O)(sz:Nat)(b2:Nat)(st:af)(K:af->R):R:=
 hz A gl true true d s x sz b2 st K
noncomputable def Rp(d:Nat)(sz:Nat)(xs:List O)(st:af)(K:af->R):R:=
  let vs:=xs.map λx=>cellsOf (gJ (aK gl st x));A.guard (!xs.isEmpty&&vs.all λl=>Nat.beq l.length sz&&l.all kc) (K ({st with s:=st.s++[b3.box vs.flatten]}.cD d (.aS st.s.length 0 xs.length xs.length sz)))
noncomputable def Rq(d:Nat)(sz:Nat)(z:List ag)(n:O)(b2:Nat)(st:af)(K:af->R):R:=
 match aK gl st n with
  |.d (.int _ n)=>A.guard (decide (0<=n)&&decide (n<=b2)) (K ({st with s:=st.s++[b3.box (List.replicate n.toNat z).flatten]}.cD d (.aS st.s.length 0 n.toNat n.toNat sz)))
  |_=>A.fail
noncomputable def Rr(d:Option Nat)(x:O)(z:List ag)(st:af)(K:af->R):R:=
 match aK gl st x with
  |.aS i off len _ sz=>match st.s.getD i .dead with
   |.box cs=>A.guard (Nat.beq z.length sz&&Nat.ble (off+len*sz) cs.length) (K ({st with s:=st.s.set i (.box (putCells cs off (List.replicate len z).flatten))}.dA d (.tuple [])))
   |_=>A.fail
  |v=>match gK v with
   |some (_,[])=>K (st.dA d (.tuple []))
   |_=>A.fail
noncomputable def Rs(d:Nat)(x:O)(i:O)(len:Nat)(sz:Nat)(ah:Bool)(st:af)(K:af->R):R:=
 match aK gl st i with
  |.d (.int _ n)=>
   let cs:=cellsOf (aK gl st x);A.guard (decide (0<=n)&&decide (n<len)&&vN (aK gl st x)&&Nat.ble (n.toNat*sz+sz) cs.length) (K (st.cD d (valOf cs (n.toNat*sz) sz ah)))
  |_=>A.fail
noncomputable def Rt(d:Nat)(t:Nat)(e:Nat)(st:af)(K:af->R):R:=
 K ({st with s:=st.s++[b3.hM t e []]}.cD d (.ptr st.s.length 0))
noncomputable def Ru(d:Nat)(x:O)(st:af)(K:af->R):R:=
 match aK gl st x with
  |.d .hj=>K ({st with s:=st.s++[b3.hZ none]}.cD d (.ptr st.s.length 0))
  |.map i=>A.guard (match st.s.getD i .dead with|.map _=>true|_=>false) (K ({st with s:=st.s++[b3.hZ (some i)]}.cD d (.ptr st.s.length 0)))
  |_=>A.fail
noncomputable def Rv(d:Nat)(x:O)(st:af)(K:af->R):R:=
 match aK gl st x with
  |.ptr j 0=>match st.s.getD j .dead with
   |.hZ none=>K (st.cD d (.tuple [.d (.bool false)]))
   |.hZ (some i)=>match st.s.getD i .dead with
    |.map []=>K (st.cD d (.tuple [.d (.bool false)]))
    |_=>A.fail
   |_=>A.fail
  |_=>A.fail
noncomputable def Rw(d:Nat)(a:O)(n:Nat)(st:af)(K:af->R):R:=
 match aK gl st a with
  |.ptr i off=>match sA i st.s off n with
   |some s'=>match s'.getD i .dead with
    |.box cs=>A.guard (Nat.ble (off+n) cs.length) (K ({st with s:=s'}.cD d (valOf cs off n true)))
    |_=>A.fail
   |none=>A.fail
  |_=>A.fail
noncomputable def Rx(d:Nat)(own:Bool)(x:O)(st:af)(K:af->R):R:=
 match aK gl st x with
  |.aS k off len cap sz=>match oZ st.s (.aS k off len cap sz)with
   |some (y,k)=>K ({st with s:=st.s.set k .dead}.cD d (cond own (match y with|.list sz l=>ij sz l|y=>.d y) (.d y)))
   |none=>A.fail
  |v=>K ((kill st x).cD d v)
noncomputable def Ry(d:Nat)(s:Nat)(hn:Nat)(x:O)(st:af)(K:af->R):R:=
 match st.aP s,aK gl st x with
  |.own sz l,.d (.int _ n)=>A.guard (Nat.beq sz hn&&decide (0<=n)&&decide (n<=l.length)&&!l.isEmpty) (K ((st.cD s .undef).cD d (ij sz (l.drop n.toNat))))
  |_,_=>A.fail
noncomputable def Rz(d:Nat)(x:O)(st:af)(K:af->R):R:=
 match x with
  |.t s=>match st.aP s with
   |.raw sz n cs=>K (({st with s:=st.s++[b3.box (ju cs)]}.cD s (.aS st.s.length 0 n n sz)).cD d (.aS st.s.length 0 n n sz))
   |.ptr i off=>match st.s.getD i .dead with
    |.box cs=>match p7 i st.s 0 cs.length with
     |some s'=>K ({st with s:=s'}.cD d (.ptr i off))
     |none=>A.fail
    |_=>A.fail
   |v=>K (st.cD d (snap v))
  |_=>A.fail
noncomputable def EX(i:I):af->(af->R)->R:=@I.casesOn (λ_=>af->(af->R)->R) i (Qy gl) Qz (QA gl) (QB A gl) (QC A) (QD A gl) QE (QF A gl) (QG A gl) (QH A gl) (QI A gl) (QJ A gl) (QK A gl) (QL A gl) (QM A gl) (QN A gl) (QO A gl) (QP A gl) (QQ A gl) (QR A gl) (QS A gl) (QT A gl) (QU A gl) (QV A gl) (QW A gl) (QX A gl) (QY A gl) (QZ A gl) (Q0 A gl) (Q5 A gl) (Q6 A gl) (Q7 A gl) (Q8 A gl) (Q9 A gl) (Q' A gl) (Ra A gl) (Rb A gl) Rc (Re A gl) (Rf A gl) (Rg A gl) (Rh A gl) (Ri A gl) (Rj A gl) (Rk A) Rl (Rm A gl) (Rn A gl) (Ro A gl) (Rp A gl) (Rq A gl) (Rr A gl) (Rs A gl) Rt (Ru A gl) (Rv A gl) (Rw A gl) (Rx A gl) (Ry A gl) (Rz A)
theorem RA(i:I):EX A gl i=step A gl i:=by
 funext st K;cases i<;>(simp only[EX,step,Qy,Qz,QA,QB,QC,QD,QE,QF,QG,QH,QI,QJ,QK,QL,QM,QN,QO,QP,QQ,QR,QS,QT,QU,QV,QW,QX,QY,QZ,Q0,Q5,Q6,Q7,Q8,Q9,Q',Ra,Rb,Rc,Re,Rf,Rg,Rh,Ri,Rj,Rk,Rl,Rm,Rn,Ro,Rp,Rq,Rr,Rs,Rt,Ru,Rv,Rw,Rx,Ry,Rz,af.ai5];try rfl)
def RB(s:Nat)(w:Bool)(d:Option Nat)(f:af->(af->R)->R)(st:af)(K:af->R):R:=match st.aP s with
 |.d (.bool b)=>cond (cond w b (!b)) (f st K) (K (st.dA d (.tuple [])))
 |.tuple []=>K (st.dA d (.tuple []))
 |_=>A.fail
noncomputable def BS(g:cb):af->(af->R)->R:=@cb.casesOn (λ_=>af->(af->R)->R) g λEY i=>
 @Option.casesOn (Nat×Bool) (λ_=>af->(af->R)->R) EY (EX A gl i) λp=>@Prod.casesOn Nat Bool (λ_=>af->(af->R)->R) p λs w=>RB A s w i.dst (EX A gl i)
theorem ai6(g:cb)(st:af)(K:af->R):BS A gl g st K=step1 A gl g st K:=by
 obtain⟨EY,i⟩:=g;cases EY with
 |none=>simp[BS,step1,RA]
 |some p=>
  obtain⟨s,w⟩:=p;simp[BS,step1,RA,RB];rfl
theorem ai7(g:cb)(l:List cb)(st:af)(K:af->R):steps A gl (g::l) st K=step1 A gl g st λst=>steps A gl l st K:=by
 obtain⟨EY,i⟩:=g;grind[steps,step1]
noncomputable def JH(l:List cb):af->(af->R)->R:=@List.rec cb (λ_=>af->(af->R)->R) (λst K=>K st) (λg _ ih st K=>BS A gl g st λst=>ih st K) l
theorem RC:∀(l:List cb) (st:af) (K:af->R),JH A gl l st K=steps A gl l st K
 |[],_,_=>rfl
 |g::l,st,K=>by
  rw[ai7];show BS A gl g st (λst=>JH A gl l st K)=_;rw[ai6];congr 1;funext st;exact RC l st K
def RD(oB:af->(aA->af->R)->R)(K:aA->af->R)(x:aA)(st:af):R:=match x with
 |.normal=>oB st K
 |x=>K x st
def JI(c:O)(lF oB:af->(aA->af->R)->R)(st:af)(K:aA->af->R):R:=match aK gl st c with
 |.d (.bool t)=>cond t (lF st K) (oB st K)
 |_=>A.fail
def RE(i:Nat)(K:aA->af->R)(x:aA)(st:af):R:=match x with
 |.exit j=>cond (Nat.beq j i) (K .normal st) (K (.exit j) st)
 |x=>K x st
def RF(ts bs:List Nat)(n:Nat)(K:aA->af->R)(rec:af->R)(x:aA)(st:af):R:=match x with
 |.normal=>forget A n ts bs st rec
 |x=>K x st
def RG(x:O)(ps:List Nat)(mg h4:af->(aA->af->R)->R)(st:af)(K:aA->af->R):R:=match aK gl st x with
 |.func g [] gD=>o2 A gl mg h4 ps g gD st K
 |.d (.fn g)=>o2 A gl mg h4 ps g [] st K
 |_=>A.fail
noncomputable def py(c:eG):af->(aA->af->R)->R:=@eG.rec (λ_=>af->(aA->af->R)->R)
 (λst K=>K .normal st)
 (λl st K=>JH A gl l st (K .normal))
 (λl dz st K=>qa A gl l dz st (K .normal))
 (λ_ _=>A.fail)
 (λ_ _ lF oB st K=>lF st (RD oB K))
 (λc _ _ lF oB=>JI A gl c lF oB)
 (λi _ oB st K=>oB st (RE i K))
 (λts bs _ oB st K=>forget A st.s.length ts bs st λst0=>A.fix (λcL rec=>oB cL (RF A ts bs cL.s.length K rec)) st0)
 (λx ps _ _ lF oB=>RG A gl x ps lF oB)
 (λi st K=>K (.exit i) st)
 (λst K=>K .ret st) c
theorem ai8:∀(c:eG) (st:af) (K:aA->af->R),py A gl c st K=run A gl c st K:=by
 intro c;induction c with
 |skip=>intro st K;rfl
 |ops l=>intro st K;exact RC A gl l st _
 |any l dz=>intro st K;rfl
 |bad=>intro st K;rfl
 |seq a b iQ jk=>
  intro st K;show py A gl a st (RD (py A gl b) K)=run A gl a st _;rw[iQ];congr 1;funext x st;cases x<;>first|rfl|exact jk st K
 |cond c a b iQ jk=>
  intro st K;show JI A gl c (py A gl a) (py A gl b) st K=_;grind[JI,run]
 |block i b ih=>
  intro st K;show py A gl b st (RE i K)=run A gl b st _;rw[ih];congr 1
 |loop ts bs b ih=>
  intro st K;show forget A st.s.length ts bs st (λst0=>A.fix (λcL rec=>py A gl b cL (RF A ts bs cL.s.length K rec)) st0)=_;simp[run,ih];rfl
 |h4 x ps a b iQ jk=>
  intro st K;show RG A gl x ps (py A gl a) (py A gl b) st K=_;have br:py A gl a=run A gl a:=axv;have aq:py A gl b=run A gl b:=axv;rw[br,aq];rfl
 |exit i=>intro st K;rfl
 |ret=>intro st K;rfl
def ai9(res:List n9)(K:ag->aV->R)(n:Nat)(x:aA)(st:af):R:=match x with
 |.exit _=>A.fail
 |_=>match qb st res with
  |some r=>A.guard (dU depth r) (K r (gc n r st.s))
  |none=>A.fail
noncomputable def EZ(fn:aX)(args:List ag)(s:aV)(K:ag->aV->R):R:=
 py A gl fn.code ⟨q7 args 0,λ_=>none,s⟩ (ai9 A fn.res K s.length)
theorem ai'(fn:aX)(args:List ag)(s:aV)(K:ag->aV->R):EZ A gl fn args s K=lH A gl fn args s K:=by
 unfold EZ lH;rw[ai8];congr 1
end
noncomputable def E0(n:Nat):(af->(af->Out)->Out)->af->Out:=@Nat.rec (λ_=>(af->(af->Out)->Out)->af->Out) (λ_ _=>none) (λ_ ih F st=>F st (ih F)) n
theorem RH:∀(n:Nat) (F:af->(af->Out)->Out) (st:af),E0 n F st=uW n F st
 |0,_,_=>rfl
 |n+1,F,st=>by
  show F st (E0 n F)=F st _;congr 1;funext st;exact RH n F st
def aja(b:Bool)(p:Out):Out:=cond b p none
def ajb(call:Nat->List ag->aV->Out)(f:Nat)(args:List ag)(s:aV)(K:ag->aV->Out):Out:=match call f args s with
 |some (r,s')=>K r s'
 |none=>none
def ajc(p q:Out):Out:=match p,q with
 |some a,some b=>cond (BF a b) (some a) none
 |_,_=>none
def ajd(tab:Nat->Option aX)(g:Nat)(k:aX->Out):Out:=match tab g with
 |some cO=>k cO
 |none=>none
noncomputable def E1(tab:Nat->Option aX)(call:Nat->List ag->aV->Out)(fuel:Nat):mc Out:=⟨none,aja,ajb call,E0 fuel,ajc,ajd tab⟩
theorem aje(tab:Nat->Option aX)(call:Nat->List ag->aV->Out)(fuel:Nat):E1 tab call fuel=fX tab call fuel:=by
 have h:E0 fuel=λF st=>uW fuel F st:=by
  grind[RH]
 unfold E1;rw[h];rfl
noncomputable def nT(ext:Nat->List ag->aV->Out)(tab:Nat->Option aX)(gl:Nat->List D)(fuel n:Nat):Nat->List ag->aV->Out:=
 @Nat.rec (λ_=>Nat->List ag->aV->Out) (λ_ _ _=>none) (λ_ ih f args s=>match ext f args s with
  |some r=>some r
  |none=>match tab f with
   |some cO=>EZ (E1 tab ih fuel) gl cO args s λr s'=>some (r,s')
   |none=>none) n
theorem RI(ext:Nat->List ag->aV->Out)(tab:Nat->Option aX)(gl:Nat->List D)(fuel:Nat):∀n,nT ext tab gl fuel n=BL ext tab gl fuel n
 |0=>rfl
 |n+1=>by
  funext f args s;show(match ext f args s with
   |some r=>some r
   |none=>match tab f with
    |some cO=>EZ (E1 tab (nT ext tab gl fuel n) fuel) gl cO args s λr s'=>some (r,s')
    |none=>none)=_
  rw[RI ext tab gl fuel n,aje];simp[ai'];rfl
def w2:List ag->List ag->Bool
 |[],[]=>true
 |a::l,b::m=>rV depth a b&&w2 l m
 |_,_=>false
def rW:aV->aV->Bool
 |[],[]=>true
 |a::l,b::m=>y9 a b&&rW l m
 |_,_=>false
theorem RJ:∀{a b:List ag},w2 a b=true->a=b
 |[],[],_=>rfl
 |[],_::_,h=>by grind[w2]
 |_::_,[],h=>by grind[w2]
 |a::l,b::m,h=>by
  simp[w2,azH]at h;rw[BH _ _ _ h.1,RJ h.2]
theorem RL:∀{a b:aV},rW a b=true->a=b
 |[],[],_=>rfl
 |[],_::_,h=>by grind[rW]
 |_::_,[],h=>by grind[rW]
 |a::l,b::m,h=>by
  simp[rW,azH]at h;rw[Qf _ _ h.1,RL h.2]
def pz(f:Nat)(args:List ag)(s:aV)(r:ag)(s':aV)(base:Nat->List ag->aV->Out):Nat->List ag->aV->Out:=λf0 zc fv=>
 cond (Nat.beq f0 f) (cond (w2 zc args) (cond (rW fv s) (some (r,s')) (base f0 zc fv)) (base f0 zc fv)) (base f0 zc fv)
theorem rX{P:Program}{gl:Nat->List D}{f:Nat}{args:List ag}{s:aV}{r:ag}{s':aV}{base:Nat->List ag->aV->Out}(aq:gT P gl base)(h:bM P gl f args s r s'):gT P gl (pz f args s r s' base):=by
 intro f0 zc fv r0 Pn h0;unfold pz at h0;cases h1:Nat.beq f0 f with
 |false=>rw[h1]at h0;exact aq _ _ _ _ _ h0
 |true=>
  cases h2:w2 zc args with
  |false=>rw[h1,h2]at h0;exact aq _ _ _ _ _ h0
  |true=>
   cases av:rW fv s with
   |false=>rw[h1,h2,av]at h0;exact aq _ _ _ _ _ h0
   |true=>
    rw[h1,h2,av]at h0;grind[Nat.eq_of_beq_eq_true,RJ,RL]
def JJ(P:Program):List (Nat×aX)->Prop
 |[]=>True
 |p::l=>a7 P p.1 p.2/\JJ P l
def E2(P:Program):List (List (Nat×aX))->Prop
 |[]=>True
 |l::m=>JJ P l/\E2 P m
def BU(f:Nat):List (Nat×aX)->Option aX
 |[]=>none
 |p::l=>cond (Nat.beq f p.1) (some p.2) (BU f l)
def E3(f:Nat):Nat->List (List (Nat×aX))->Option aX
 |_,[]=>none
 |0,l::_=>BU f l
 |n+1,_::m=>E3 f n m
theorem RM{P:Program}{f:Nat}{cO:aX}:∀{l:List (Nat×aX)},JJ P l->BU f l=some cO->a7 P f cO
 |[],_,h=>by grind[BU]
 |p::l,br,h=>by
  simp[BU]at h;cases aq:Nat.beq f p.1 with
  |true=>
   rw[aq]at h;simp at h;rw[<-h,azR aq];exact br.1
  |false=>rw[aq]at h;exact RM br.2 h
theorem RN{P:Program}{f:Nat}{cO:aX}:∀{n:Nat} {m:List (List (Nat×aX))},E2 P m->E3 f n m=some cO->a7 P f cO
 |_,[],_,h=>by grind[E3]
 |0,l::m,br,h=>RM br.1 h
 |n+1,l::m,br,h=>RN (n:=n) (m:=m) br.2 h
def RO(m:List (List (Nat×aX)))(f:Nat):Option aX:=E3 f (f/16) m
theorem ajf{P:Program}{m:List (List (Nat×aX))}(h:E2 P m):uX P (RO m):=λ_ _ bm=>RN h bm
theorem pA{P:Program}{gl:Nat->List D}{tab:Nat->Option aX}{ext:Nat->List ag->aV->Out}{fuel:Nat}(he:gT P gl ext)(aC:uX P tab)(n:Nat):gT P gl (nT ext tab gl fuel n):=by
 grind[RI,aiL]
def aAb:=@Go.run_underlying
def aA3:=@Go.Lib.cell_of_heap
def aCx:=@Go.Lib.byteCells_length
def aCc:=@Go.Proofs.Body.n169_ntmps
def aCy:=@Go.Proofs.Any.unsafeString_none
theorem azm(h:p:=by have og:w.drew.heap[g]?=some (.cells cur (ρ.t 5) fz):=aE;grind[World.shape?]):p:=h
open Go.Shelf Go.RowKit Go.Proofs
section
variable {P:Program}{w:World}
theorem ajg(t u ty e:TypeId)(i:TypeInfo)(aC:P.underlying t=some (.slice e))(hu:P.underlying u=some .string)(hi:P.info? e=some i)(aQ:i.zero=some (.int .u8 0))
  (wj:i.size=1) (BV:i.bytes=1) (v:Value) (n:Nat) (xs:List Value) (kQ:w.ownsRowF 0 e 1 v n xs) (s:ByteArray) (BW:n+s.size<=maxLen) (E4:n+s.size<=140737488355328):
  ∃v' w',(Builtin.append_ #[t,u] ty #[v,.string s]).run P w=.ok v' w'/\w'.ownsRowF 0 e 1 v' (n+s.size) (xs++Lib.strCells s)/\w.grownBy w' v.ownBlock/\(∀g,v'.ownBlock=some g->v.ownBlock=some g\/w.heap.size<=g)/\
   ∀g cur fz,v.ownBlock=some g->w.heap[g]?=some (.cells cur e fz)->∃zd pc,w'.heap[g]?=some (.cells zd e pc)/\zd.size=cur.size:=by
 obtain⟨v',w',h1,h2,av,-⟩:=Lib.run_append_own_stringF w 0 t u ty e i aC hu hi aQ wj BV v n xs kQ s BW E4 (azF _);refine⟨v',w',h1,h2,av,?_⟩;rcases kQ.2 with⟨rfl,rfl⟩|⟨g,cap,cur,fz,rfl,_,aE,hfz,HD,ajh,gQ,aji⟩
 .obtain⟨v2,bS,bN,cz,-,-⟩:=Lib.run_append_own_stringF w w.heap.size t u ty e i aC hu hi aQ wj BV (.slice none 0 0) 0 xs ⟨kQ.1,.inl ⟨rfl,rfl⟩⟩ s BW E4 (azI _);rw[h1]at bN;injection bN with bN HM
  refine⟨λk au=> ?_,λg cur fz hv _=>by grind[Value.ownBlock]⟩;rcases cz.2 with⟨rfl,_⟩|⟨nN,_,_,_,rfl,aq,_⟩
  all_goals grind[Value.ownBlock]
 .by_cases sW:n+s.size<=cap
  .have aw:=Lib.run_append_room_stringF (P:=P) w t u ty e i aC hu hi wj g n cap cur fz aE axs s sW axs;rw[h1]at aw;injection aw with aw gO
   subst aw;refine⟨λk au=>.inl au,λg2 ajj qm hv ff=> ?_⟩;simp[Value.ownBlock,azJ]at hv;subst hv;rw[aE]at ff;simp at ff;obtain⟨rfl,_,rfl⟩:=ff;subst gO;refine⟨_,_,setRow_heap w g cur _ e _ aE,?_⟩;grind[Lib.strCells_length]
  .have holds:=kQ.cells (g:=g) rfl;have aw:=Lib.run_append_grow_string (P:=P) w t u ty e i (.int .u8 0) aC hu hi aQ ⟨g,0,none⟩ n cap xs axv holds s axs axs (by rw[BV];exact growslice_fits axs axs);rw[h1]at aw;injection aw with aw gO
   subst aw;refine⟨λk au=> ?_,λg2 ajj qm hv ff=> ?_⟩
   .grind[Value.ownBlock]
   .subst gO;have aB:=(aAk.1 ff).1;exact⟨_,_,(Lib.alloc_old w.drew _ g2 aB).trans ff,rfl⟩
def JK(v:Value)(e:TypeId)(w w':World):Prop:=∀g cur fz,v.ownBlock=some g->w.heap[g]?=some (.cells cur e fz)->∃zd pc,w'.heap[g]?=some (.cells zd e pc)/\zd.size=cur.size
theorem ajk{ops:Array Oper}{rest:List Oper}{o:Oper}{a:Act}{Q:Exit->Act->World->Prop}(lh:o.guard=none)(aS x:Operand)(t u:TypeId)
  (bb:o.op=.call {callee:=.builtin .append,args:= #[aS,x],argTypes:= #[t,u]})
  (e:TypeId) (i:TypeInfo) (aC:P.underlying t=some (.slice e)) (hu:P.underlying u=some .string) (hi:P.info? e=some i) (aQ:i.zero=some (.int .u8 0)) (wj:i.size=1) (BV:i.bytes=1)
  (v:Value) (n:Nat) (xs:List Value) (hs:a.eval aS=v) (kQ:w.ownsRowF 0 e 1 v n xs) (s:ByteArray) (ak:a.eval x=.string s) (BW:n+s.size<=maxLen) (E4:n+s.size<=140737488355328)
  (h:∀v' w',w'.ownsRowF 0 e 1 v' (n+s.size) (xs++Lib.strCells s)->w.grownBy w' v.ownBlock->(∀g,v'.ownBlock=some g->v.ownBlock=some g\/w.heap.size<=g)->JK v e w w'->
   wpList P ops Q rest (a.put o.dst v') w'):wpList P ops Q (o::rest) a w:=by
 refine wpList_plain lh λK ao=> ?_;obtain⟨v',w',aw,h2,av,aZ,bW⟩:=ajg (P:=P) (w:=w) t u o.type e i aC hu hi aQ wj BV v n xs kQ s BW E4;unfold Oper.wp execOp;simp[bb,resolve,invoke,builtin,azP,azU,azS,aBi,aAh,aA8,hs,ak,aw];exact ao _ _ (h v' w' h2 av aZ bW)
end
def pB(t e b:Nat)(p v:Value)(bs:List Value)(w:World):Prop:=
 w.heap[b]?=some (.cells #[p,v] t (0,0))/\(p=.pointer none\/p=.pointer (some ⟨b,0,none⟩))/\w.ownsRowF 0 e 1 v bs.length bs/\v.ownBlock≠some b
structure BX(b:Nat)(v:Value)(w w':World):Prop where
 os:w'.os=w.os
 out:w'.output=w.output
 size:w.heap.size<=w'.heap.size
 block:∀k,k<w.heap.size->k≠b->v.ownBlock≠some k->w'.heap[k]?=w.heap[k]?
section
variable {P:Program}{ρ:Ren}{w:World}
theorem ajl(L:Lays.n240 P ρ)(X:Builder.X72 P ρ){b:Nat}{p v:Value}{bs:List Value}(h:pB (ρ.t 72) (ρ.t 5) b p v bs w):
  Calls P (ρ.f 240) #[.pointer (some ⟨b,0,none⟩)] w λe w'=>e=.returned (.tuple #[])/\pB (ρ.t 72) (ρ.t 5) b (.pointer (some ⟨b,0,none⟩)) v bs w'/\w'.os=w.os/\w'.output=w.output/\w'.heap.size=w.heap.size/\∀k,k≠b->w'.heap[k]?=w.heap[k]?:=by
 obtain⟨h1,h2,av,aZ⟩:=h;have gw:Lib.BuilderAtF (ρ.t 72) (ρ.t 5) 0 b p bs w:=⟨azF _,v,h1,av,aZ⟩;rcases h2 with rfl|rfl
 .refine(Any.Builder_copyCheck_fresh L X b w gw.cell0 gw.shape gw.frozen0).mono ?_;rintro e w' ⟨rfl,rfl⟩;obtain⟨_,v',g1,g2,g3⟩:=gw.used (.pointer (some ⟨b,0,none⟩));have hv:v'=v:=by
   grind[World.setCell]
  subst hv;exact⟨rfl,⟨g1,.inr rfl,g2,g3⟩,rfl,rfl,axt,λk au=>Below.heap_setCell _ _ _ _ (λe=>au axs)⟩
 .refine(Any.Builder_copyCheck_used L X b w gw.cell0).mono ?_;rintro e w' ⟨rfl,rfl⟩;exact⟨rfl,⟨h1,.inr rfl,av,aZ⟩,rfl,rfl,rfl,λ_ _=>rfl⟩
theorem ajm(L:Lays.n166 P ρ)(X:Builder.Extra P ρ){b:Nat}{p v:Value}{bs:List Value}(s:ByteArray)(h:pB (ρ.t 72) (ρ.t 5) b p v bs w)(hlen:bs.length+s.size<=140737488355328):
  Calls P (ρ.f 166) #[.pointer (some ⟨b,0,none⟩),.string s] w λe w'=>e=.returned (.tuple #[.int .i64 s.size,.nilIface])/\BX b v w w'/\
   ∃v',pB (ρ.t 72) (ρ.t 5) b (.pointer (some ⟨b,0,none⟩)) v' (bs++Lib.strCells s) w'/\(∀g,v'.ownBlock=some g->v.ownBlock=some g\/w.heap.size<=g)/\
   JK v (ρ.t 5) w w':=by
 obtain⟨i0,hi,sR,rC,gu⟩:=info_parts X.infoByte;have mixed:=L.mixed;have t72:=L.t72;have a72:=L.a72;have z72:=L.z72;have v72:=L.v72;have E5:=aAb L.t72;have t70:=L.t70;have a70:=L.a70;have z70:=L.z70;have v70:=L.v70;have E6:=aAb L.t70;have t37:=L.t37;have a37:=L.a37;have z37:=L.z37;have v37:=L.v37;have E7:=aAb L.t37;have t3:=L.t3;have a3:=L.a3;have z3:=L.z3;have v3:=L.v3;have fp:=aAb L.t3;have t9:=L.t9;have a9:=L.a9;have z9:=L.z9;have v9:=L.v9;have tC:=aAb L.t9;have t4:=L.t4;have a4:=L.a4;have z4:=L.z4;have v4:=L.v4;have gd:=aAb L.t4;have t164:=L.t164;have a164:=L.a164;have z164:=L.z164;have v164:=L.v164;have auC:=aAb L.t164;have t5:=X.t5;have a5:=X.a5;have z5:=X.z5;have v5:=X.v5;have gU:=aAb X.t5;have auD:∀args w,(callFunc (ρ.f 240) args).run P w=.ok (.enter (ρ.f 240) args) w:=enters_of L.f240 axr rfl;go_enter L.f166,Body.n166_ntmps ρ;go_wp2_with (refine(ajl {L with} X.toX72 h).mono ?_);rintro e w1 ⟨rfl,⟨jZ,_,kQ,cB⟩,ajn,ajo,cm,fe⟩;have c0:w1.cell? ⟨b,0,none⟩=some (.pointer (some ⟨b,0,none⟩)):=by rw[aA3 jZ];rfl
 have c1:w1.cell? ⟨b,1,none⟩=some v:=by rw[aA3 jZ];rfl
 go_wp2_with (refine ajk rfl _ _ (ρ.t 37) (ρ.t 9) rfl (ρ.t 5) i0 L.t37 L.t9 hi sR rC gu _ _ _ rfl kQ s rfl ?c3 ?c4 ?_)
 case c3=>grind[maxLen]
 case c4=>omega
 intro v' bS RP JL jg Ec;have aB:b<w1.heap.size:=axv;have dP:bS.heap[b]?=some (.cells #[.pointer (some ⟨b,0,none⟩),v] (ρ.t 72) (0,0)):=by
  grind[World.grownBy.block]
 have d0:bS.cell? ⟨b,0,none⟩=some (.pointer (some ⟨b,0,none⟩)):=by rw[aA3 dP];rfl
 have d1:bS.cell? ⟨b,1,none⟩=some v:=by rw[aA3 dP];rfl
 have f1:=Lib.frozen_of_heap dP 1;obtain⟨E8,n',cap,rfl⟩:∃E8 n' cap,v'=.slice E8 n' cap:=by
  rcases RP.2 with⟨hv,_⟩|⟨g,cap,cur,fz,hv,_⟩
  .simp_all
  simp_all
 have kU:=Lib.BuilderAtF.put (T:=(ρ.t 72)) (e:=(ρ.t 5)) (azF b) dP (bs':=bs++Lib.strCells s) (by simpa [Lib.strCells_length]using RP) X.neB5;go_wp2;go_ret2;refine⟨rfl,⟨?_,?_,?_,?_⟩,.slice E8 n' cap,?_,?_,?_⟩
 .show bS.os=w.os;rw[JL.os,ajn]
 .show bS.output=w.output;rw[JL.output,ajo]
 .have:=JL.size;simp_all
 .grind[Below.heap_setCell,World.grownBy.block]
 .obtain⟨_,v2,q1,bK,cI⟩:=kU;have hv:v2=.slice E8 n' cap:=by
   grind[World.setCell]
  subst hv;exact⟨q1,.inr rfl,bK,cI⟩
 .omega
 .intro g cur fz hv aE;have Ba:g≠b:=λe=>cB axu;obtain⟨zd,pc,q1,bK⟩:=Ec g cur fz hv ((fe g Ba).trans aE);grind[Below.heap_setCell]
def JM(v:Value)(n:Nat)(w w':World):Prop:=
 w'=w.drew\/(∃a e,w'=w.drew.alloc (.view a e))\/∃g c,v=.slice (some ⟨g,0,none⟩) n c/\n≠0/\w'=w.drew.freeze ⟨g,0,none⟩ n
theorem ajp(L:Lays.n169 P ρ)(X:Builder.Extra P ρ){b:Nat}{p v:Value}{l:List UInt8}(h:pB (ρ.t 72) (ρ.t 5) b p v (Lib.byteCells l) w)(h0:l≠[]):
  Calls P (ρ.f 169) #[.pointer (some ⟨b,0,none⟩)] w λe w'=>e=.returned (.string ⟨l.toArray⟩)/\JM v l.length w w':=by
 obtain⟨jZ,_,kQ,cB⟩:=h;have pf:l.length≠0:=axu;rw[aCx]at kQ;obtain⟨g,cap,cur,fz,rfl,aE,hfz,HD,ajh,gQ,aji⟩:∃g cap cur fz,v=.slice (some ⟨g,0,none⟩) l.length cap/\w.heap[g]?=some (.cells cur (ρ.t 5) fz)/\fz.2<=l.length*1/\l.length<=cap/\cap<=maxLen/\cur.size=cap*1/\cur.toList.take (l.length*1)=Lib.byteCells l:=by
  rcases kQ.2 with⟨_,aQ⟩|⟨g,cap,cur,fz,hv,_,r⟩
  all_goals grind
 have c1:w.drew.cell? ⟨b,1,none⟩=some (.slice (some ⟨g,0,none⟩) l.length cap):=by
  have:w.drew.heap[b]?=some (.cells #[p,.slice (some ⟨g,0,none⟩) l.length cap] (ρ.t 72) (0,0)):=jZ;rw[aA3 this];rfl
 have JN:(Builtin.unsafeSliceData_ #[(ρ.t 37)] (ρ.t 127) #[.slice (some ⟨g,0,none⟩) l.length cap]).run P w.drew=.ok (.pointer (some ⟨g,0,none⟩)) w.drew:=
  Lib.run_unsafeSliceData_row _ _ _ _ _ _ axs
 have JO:=by
  refine Lib.run_unsafeString_row w.drew (ρ.t 127) (ρ.t 3) (ρ.t 9) (ρ.t 5) L.t127 X.cellsByte g cur.size azm l h0 axs (by grind[maxLen]) ?_;intro j x ak;have:=kQ.cells (g:=g) rfl j (.int .u8 x.toNat) (by grind[Lib.byteCells]);simp_all
 have mixed:=L.mixed;have t72:=L.t72;have a72:=L.a72;have z72:=L.z72;have v72:=L.v72;have E5:=aAb L.t72;have t70:=L.t70;have a70:=L.a70;have z70:=L.z70;have v70:=L.v70;have E6:=aAb L.t70;have t37:=L.t37;have a37:=L.a37;have z37:=L.z37;have v37:=L.v37;have E7:=aAb L.t37;have t127:=L.t127;have a127:=L.a127;have z127:=L.z127;have v127:=L.v127;have JP:=aAb L.t127;have t3:=L.t3;have a3:=L.a3;have z3:=L.z3;have v3:=L.v3;have fp:=aAb L.t3;have t9:=L.t9;have a9:=L.a9;have z9:=L.z9;have v9:=L.v9;have tC:=aAb L.t9;have t5:=X.t5;have a5:=X.a5;have z5:=X.z5;have v5:=X.v5;have gU:=aAb X.t5;go_enter L.f169,aCc ρ;go_wp2;go_region_o;all_goals (go_wp2;go_ret;exact⟨rfl,.inr (.inr ⟨g,cap,rfl,pf,rfl⟩)⟩)
theorem ajq(L:Lays.n169 P ρ)(X:Builder.Extra P ρ){b:Nat}{p:Value}(jZ:w.heap[b]?=some (.cells #[p,.slice none 0 0] (ρ.t 72) (0,0))):
  Calls P (ρ.f 169) #[.pointer (some ⟨b,0,none⟩)] w λe w'=>e=.returned (.string ⟨#[]⟩)/\w'=w.drew:=by
 have JO:=aCy L X;have c1:w.drew.cell? ⟨b,1,none⟩=some (.slice none 0 0):=by
  have:w.drew.heap[b]?=some (.cells #[p,.slice none 0 0] (ρ.t 72) (0,0)):=jZ;rw[aA3 this];rfl
 have JN:(Builtin.unsafeSliceData_ #[(ρ.t 37)] (ρ.t 127) #[.slice none 0 0]).run P w.drew=.ok (.pointer none) w.drew:=rfl;have mixed:=L.mixed;have t72:=L.t72;have a72:=L.a72;have z72:=L.z72;have v72:=L.v72;have E5:=aAb L.t72;have t70:=L.t70;have a70:=L.a70;have z70:=L.z70;have v70:=L.v70;have E6:=aAb L.t70;have t37:=L.t37;have a37:=L.a37;have z37:=L.z37;have v37:=L.v37;have E7:=aAb L.t37;have t127:=L.t127;have a127:=L.a127;have z127:=L.z127;have v127:=L.v127;have JP:=aAb L.t127;have t3:=L.t3;have a3:=L.a3;have z3:=L.z3;have v3:=L.v3;have fp:=aAb L.t3;have t9:=L.t9;have a9:=L.a9;have z9:=L.z9;have v9:=L.v9;have tC:=aAb L.t9;have t5:=X.t5;have a5:=X.a5;have z5:=X.z5;have v5:=X.v5;have gU:=aAb X.t5;go_enter L.f169,aCc ρ;go_wp2;go_region_o;all_goals (go_wp2;go_ret;exact⟨rfl,rfl⟩)
theorem ajr(L:Lays.n169 P ρ)(X:Builder.Extra P ρ){b g:Nat}{p:Value}{cur:Array Value}{fz:Nat×Nat}(jZ:w.heap[b]?=some (.cells #[p,.slice (some ⟨g,0,none⟩) 0 0] (ρ.t 72) (0,0)))(aE:w.heap[g]?=some (.cells cur (ρ.t 5) fz)):
  Calls P (ρ.f 169) #[.pointer (some ⟨b,0,none⟩)] w λe w'=>e=.returned (.string ⟨#[]⟩)/\∃a e,w'=w.drew.alloc (.view a e):=by
 have JO:=aCy L X;have aB:b<w.heap.size:=axv;have c1:w.drew.cell? ⟨b,1,none⟩=some (.slice (some ⟨g,0,none⟩) 0 0):=by
  have:w.drew.heap[b]?=some (.cells #[p,.slice (some ⟨g,0,none⟩) 0 0] (ρ.t 72) (0,0)):=jZ;rw[aA3 this];rfl
 have JN:(Builtin.unsafeSliceData_ #[(ρ.t 37)] (ρ.t 127) #[.slice (some ⟨g,0,none⟩) 0 0]).run P w.drew=.ok (.pointer (some ⟨w.drew.heap.size,0,none⟩)) (w.drew.alloc (.view ⟨g,0,none⟩ (ρ.t 5))):=
  Lib.run_unsafeSliceData_zero w.drew _ _ (ρ.t 5) L.t127 ⟨g,0,none⟩ 0 ((ρ.t 5),cur.size) azm
 have c2:(w.drew.alloc (.view ⟨g,0,none⟩ (ρ.t 5))).cell? ⟨b,1,none⟩=some (.slice (some ⟨g,0,none⟩) 0 0):=by
  have:(w.drew.alloc (.view ⟨g,0,none⟩ (ρ.t 5))).heap[b]?=_:=(Lib.alloc_old w.drew _ b aB).trans jZ;rw[aA3 this];rfl
 have c3:=c2;have c0:w.cell? ⟨b,1,none⟩=some (.slice (some ⟨g,0,none⟩) 0 0):=c1;have mixed:=L.mixed;have t72:=L.t72;have a72:=L.a72;have z72:=L.z72;have v72:=L.v72;have E5:=aAb L.t72;have t70:=L.t70;have a70:=L.a70;have z70:=L.z70;have v70:=L.v70;have E6:=aAb L.t70;have t37:=L.t37;have a37:=L.a37;have z37:=L.z37;have v37:=L.v37;have E7:=aAb L.t37;have t127:=L.t127;have a127:=L.a127;have z127:=L.z127;have v127:=L.v127;have JP:=aAb L.t127;have t3:=L.t3;have a3:=L.a3;have z3:=L.z3;have v3:=L.v3;have fp:=aAb L.t3;have t9:=L.t9;have a9:=L.a9;have z9:=L.z9;have v9:=L.v9;have tC:=aAb L.t9;have t5:=X.t5;have a5:=X.a5;have z5:=X.z5;have v5:=X.v5;have gU:=aAb X.t5;go_enter L.f169,aCc ρ;go_wp2;go_region_o;all_goals (go_wp2;go_ret;exact⟨rfl,_,_,rfl⟩)
theorem ajs(L:Lays.n169 P ρ)(X:Builder.Extra P ρ){b g cap:Nat}{p:Value}(uZ:cap≠0)(jZ:w.heap[b]?=some (.cells #[p,.slice (some ⟨g,0,none⟩) 0 cap] (ρ.t 72) (0,0))):
  Calls P (ρ.f 169) #[.pointer (some ⟨b,0,none⟩)] w λe w'=>e=.returned (.string ⟨#[]⟩)/\w'=w.drew:=by
 have JO:=aCy L X;have c1:w.drew.cell? ⟨b,1,none⟩=some (.slice (some ⟨g,0,none⟩) 0 cap):=by
  have:w.drew.heap[b]?=some (.cells #[p,.slice (some ⟨g,0,none⟩) 0 cap] (ρ.t 72) (0,0)):=jZ;rw[aA3 this];rfl
 have JN:(Builtin.unsafeSliceData_ #[(ρ.t 37)] (ρ.t 127) #[.slice (some ⟨g,0,none⟩) 0 cap]).run P w.drew=.ok (.pointer (some ⟨g,0,none⟩)) w.drew:=
  Lib.run_unsafeSliceData_row _ _ _ _ _ _ uZ
 have mixed:=L.mixed;have t72:=L.t72;have a72:=L.a72;have z72:=L.z72;have v72:=L.v72;have E5:=aAb L.t72;have t70:=L.t70;have a70:=L.a70;have z70:=L.z70;have v70:=L.v70;have E6:=aAb L.t70;have t37:=L.t37;have a37:=L.a37;have z37:=L.z37;have v37:=L.v37;have E7:=aAb L.t37;have t127:=L.t127;have a127:=L.a127;have z127:=L.z127;have v127:=L.v127;have JP:=aAb L.t127;have t3:=L.t3;have a3:=L.a3;have z3:=L.z3;have v3:=L.v3;have fp:=aAb L.t3;have t9:=L.t9;have a9:=L.a9;have z9:=L.z9;have v9:=L.v9;have tC:=aAb L.t9;have t5:=X.t5;have a5:=X.a5;have z5:=X.z5;have v5:=X.v5;have gU:=aAb X.t5;go_enter L.f169,aCc ρ;go_wp2;go_region_o;all_goals (go_wp2;go_ret;exact⟨rfl,rfl⟩)
theorem ajt(L:Lays.n169 P ρ)(X:Builder.Extra P ρ){b:Nat}{p v:Value}{l:List UInt8}(h:pB (ρ.t 72) (ρ.t 5) b p v (Lib.byteCells l) w):
  Calls P (ρ.f 169) #[.pointer (some ⟨b,0,none⟩)] w λe w'=>e=.returned (.string ⟨l.toArray⟩)/\JM v l.length w w':=by
 cases l with
 |cons x r=>grind[ajp]
 |nil=>
  obtain⟨jZ,_,kQ,cB⟩:=h;rcases kQ.2 with⟨rfl,_⟩|⟨g,cap,cur,fz,rfl,JQ,aE,_,_,_,_⟩
  .refine(ajq L X jZ).mono ?_;rintro e w' ⟨rfl,rfl⟩;exact⟨rfl,.inl rfl⟩
  .by_cases uZ:cap=0
   .subst uZ;refine(ajr L X jZ aE).mono ?_;rintro e w' ⟨rfl,hw⟩;exact⟨rfl,.inr (.inl hw)⟩
   .refine(ajs L X uZ jZ).mono ?_;rintro e w' ⟨rfl,rfl⟩;exact⟨rfl,.inl rfl⟩
end
def aCz:=@Nat.succ_pos
open Go.RowKit
section
variable {P:Program}{gl:Nat->List D}{w w':World}{G:bJ}{ρ:List Nat}
theorem JR{b off:Nat}{v:Value}(h:w.cell? ⟨b,off,none⟩=some v):b<w.heap.size:=ayo
theorem RQ(h:Below w.heap.size w w'):da w G w' G:=by
 refine⟨λb off v ay=>⟨?_,ay.2⟩,λb o hm=> ?_,λb n hs=> ?_⟩
 .rw[aBN (h.block b (JR ay.1))];exact ay.1
 .obtain⟨h1,av,h2⟩:=hm;exact⟨h1,av,(h.block b (aAk.1 h2).1).trans h2⟩
 .obtain⟨c,E,fz,h2,av⟩:=hs;exact⟨c,E,fz,(h.block b (aAk.1 h2).1).trans h2,av⟩
theorem RR(aB:∀b L n,G b=some (L,n)->b<w.heap.size)(h:Below w.heap.size w w')(L:Loc):eV L L w G w' G:=λb aju aq=>⟨h.block b (aB _ _ _ aq),aq⟩
theorem ajv(aB:∀b L n,G b=some (L,n)->b<w.heap.size)(h:Below w.heap.size w w'):Good w G w' G where
 size:=h.size
 il b aq _:=⟨h.block b aq,rfl⟩
 new _b aju aq dB:=absurd (aB _ _ _ dB) (aAW.2 aq)
 old _ _ _ h:=h
 keep:=RQ h
 os:=h.os
 out:=h.output
theorem u0{f:Nat}{args:List ag}{s:aV}{r:ag}(bm:gL P f)
  (h:∀(w:World) (G:bJ) (ρ:List Nat) (vs:List Value),ho w G ρ s->o5 gl w G->cf w G ρ vs args->∃R:Ending->World->Prop,Calls P f ⟨vs⟩ w R/\∀e w',R e w'->∃v,e=.returned v/\(∀w':World,dr w' G ρ .res v r)/\Below w.heap.size w w'):
  bM P gl f args s r s:=by
 refine⟨bm,λw G ρ vs cq aE aB hv=> ?_⟩;obtain⟨R,ay,cX⟩:=h w G ρ vs cq aE hv;refine ay.mono ?_;intro e w' he;obtain⟨v,rfl,aw,aq⟩:=cX e w' he;exact⟨v,G,ρ,rfl,aw w',cq.bR (RQ aq) (λi=>RR aB aq _) (λi j=>RR aB aq _),λb L n h=>az' (aB b L n h) aq.size,ajv aB aq,λ_ _ h=>h⟩
def rY(sep:List UInt8):List (List UInt8)->List UInt8
 |[]=>[]
 |a::l=>a++(l.flatMap λx=>sep++x)
theorem RS(sep:List UInt8)(l:List (List UInt8)):Lib.join l sep=rY sep l:=by
 cases l with
 |nil=>rfl
 |cons a l=>
  grind[Lib.join_cons,rY,Lib.joinTail]
def fF:List D->Option (List (List UInt8))
 |[]=>some []
 |.str s::l=>match fF l with
  |some r=>some (s::r)
  |none=>none
 |_::_=>none
theorem RT:∀{l:List D} {ss:List (List UInt8)} {vs:List Value},fF l=some ss->cn w G vs l->∃xs:List ByteArray,vs=xs.map .string/\xs.map (·.data.toList)=ss
 |[],ss,vs,h,aw=>by
  simp[fF,azJ]at h;subst h;cases aw;simp
 |d::l,ss,vs,h,aw=>by
  cases d<;>simp[fF,reduceCtorEq]at h;split at h
  .rename_i r gO;simp at h;subst h;cases aw with
   |cons v _ vs _ h1 h2=>
    obtain⟨xs,rfl,rfl⟩:=RT gO h2;cases h1 with
    |str s _ he=>exact⟨s::xs,rfl,by rw[aAh,he]⟩
  .simp at h
theorem JS:∀{l:List D} {ss:List (List UInt8)},fF l=some ss->l.flatMap D.cells=l/\l.length=ss.length
 |[],ss,h=>by grind[fF]
 |d::l,ss,h=>by
  cases d<;>simp[fF,reduceCtorEq]at h;split at h
  .rename_i r gO;simp at h;subst h;obtain⟨h1,h2⟩:=JS gO;exact⟨by rw[aAX,h1];rfl,by simp[h2]⟩
  .simp at h
def E9(s:aV)(v:ag):Option (List (List UInt8)):=match v with
 |.aS i off len cap 1=>match s.getD i .dead with
  |.box cs=>cond (Nat.ble len cap&&Nat.ble (off+len) cs.length) (match jr ((cs.drop off).take len)with
   |some l=>fF l
   |none=>none) none
  |_=>none
 |.d (.list 1 l)=>fF l
 |.own _ []=>some []
 |_=>none
structure JT(P:Program)(f:Nat):Prop where
 none:∀(a:Option Addr) (c:Nat) (sep:ByteArray) (w:World),Calls P f #[.slice a 0 c,.string sep] w λe w'=>e=.returned (.string ⟨#[]⟩)/\w'=w
 some:∀(k9 o c:Nat) (xs:List ByteArray) (sep:ByteArray) (w:World),(∀(j:Nat) x,xs[j]?=some x->w.cell? ⟨k9,o+j,Option.none⟩=some (.string x))->k9<w.heap.size->xs.length<=140737488355328->xs.length<=c->
  (Lib.join (xs.map (·.data.toList)) sep.data.toList).length<=140737488355328->Calls P f #[.slice (Option.some ⟨k9,o,Option.none⟩) xs.length c,.string sep] w λe w'=>e=.returned (.string ⟨(Lib.join (xs.map (·.data.toList)) sep.data.toList).toArray⟩)/\Below w.heap.size w w'
theorem RU{b off:Nat}{vs:List Value}(h:iK w G b off vs){j:Nat}{v:Value}(hv:vs[j]?=some v):w.cell? ⟨b,off+j,none⟩=some v:=(h j v hv).1
theorem E'{f:Nat}{x:ag}{sep:List UInt8}{ss:List (List UInt8)}{s:aV}(bm:gL P f)(J:JT P f)(ak:E9 s x=some ss)(az:ss.length<=140737488355328)(hlen:(rY sep ss).length<=140737488355328):
  bM P gl f [x,.d (.str sep)] s (.d (.str (rY sep ss))) s:=by
 refine u0 bm λw G ρ vs cq aE hv=> ?_;have fg:∀{a:Option Addr} {n c:Nat} {us:List Value} {sp:ByteArray} {l:List D},sp.data.toList=sep->fF l=some ss->cn w G us l->n=l.length->n<=c->(0<n->∃b off,a=some ⟨b,off,none⟩/\∀(j:Nat) v,us[j]?=some v->w.cell? ⟨b,off+j,none⟩=some v)->
   ∃R:Ending->World->Prop,Calls P f ⟨[.slice a n c,.string sp]⟩ w R/\∀e w',R e w'->∃v,e=.returned v/\(∀w':World,dr w' G ρ .res v (.d (.str (rY sep ss))))/\Below w.heap.size w w':=by
  intro a n c us sp l mA j3 aw s4 ay hcell;obtain⟨xs,rfl,iL⟩:=RT j3 aw;have aH:=(JS j3).2;have qt:xs.length=n:=axv;cases n with
  |zero=>
   refine⟨_,J.none a c sp w,?_⟩;rintro e w' ⟨rfl,rfl⟩;have:ss=[]:=axv;subst this;exact⟨_,rfl,λ_=>.d _ _ (.str _ _ rfl),Below.refl _ _⟩
  |succ n=>
   obtain⟨b,off,rfl,ix⟩:=hcell (aCz n);have RV:∀(j:Nat) x,xs[j]?=some x->w.cell? ⟨b,off+j,none⟩=some (.string x):=λj x aL=>ix j _ axu;have JU:=by
    have h0:xs[0]?=some (xs[0]' axs):=azQ _;exact JR (RV 0 _ h0)
   have Fa:=J.some b off c xs sp w RV JU axs axs (by grind[RS]);rw[qt]at Fa;refine⟨_,Fa,?_⟩;rintro e w' ⟨rfl,aq⟩;refine⟨_,rfl,λ_=>.d _ _ (.str _ _ ?_),aq⟩;grind[RS]
 cases hv with
 |cons v1 _ o7 _ h1 h2=>cases h2 with
  |cons v2 _ ot _ av aZ=>
   cases aZ;cases av with
   |d _ _ av=>cases av with
    |str sp _ mA=>
     unfold E9 at ak;split at ak
     .rename_i i off len cap;cases h1 with
      |aS _ _ _ _ et _ b cM BD aQ=>
       split at ak
       .rename_i cs gQ;cases hle:(Nat.ble len cap&&Nat.ble (off+len) cs.length)with
        |false=>grind
        |true=>
         rw[hle]at ak;simp at ak;rw[azH]at hle;have ajw:=azW hle.1;have hle:=azW hle.2;split at ak
         .rename_i l aH;have dV:kj w G ρ i b (.box cs):=by grind[ho.at]
          obtain⟨c,E,fz,gZ,dP,ux,Nw,auE⟩:=dV;have a6:(c.toList.drop off).take len=(c.toList.drop off).take len:=rfl;have sT:((c.toList.drop off).take len).length=len:=axv;have jv:cn w G ((c.toList.drop off).take len) l:=by
           refine ya (ρ:=ρ) (LC:=λj=>.dx i (off+j)) (k:=0) (xs:=(cs.drop off).take len) axv (λj v x hv ak=> ?_) aH;grind
          refine fg (us:=(c.toList.drop off).take len) mA ak jv (by grind[cn.length]) (Nat.le_trans ajw BD) (λ_=>⟨b,off,rfl,λj v aL=> ?_⟩);grind[World.cell?]
         grind
       grind
     .rename_i l;cases h1 with
      |d _ _ h1=>cases h1 with
       |kK a c _=>exact fg mA ak .nil rfl (azF _) (λh=>absurd h (Nat.lt_irrefl 0))
       |list b off n c _ _ us aj aD aW bQ cK=>
        rw[(JS ak).1]at cK;exact fg mA ak cK aj aD λ_=>⟨b,off,rfl,λj v aL=>RU bQ aL⟩
     .cases h1 with
      |nil a sz=>exact fg (l:=[]) mA ak .nil rfl (azF _) (λh=>absurd h (Nat.lt_irrefl 0))
     grind
def BZ:Nat->Nat->List UInt8->List UInt8
 |0,_,acc=>acc
 |f+1,n,acc=>cond (Nat.blt n 10) (UInt8.ofNat (48+n)::acc) (BZ f (n/10) (UInt8.ofNat (48+n%10)::acc))
theorem RW:∀(f n:Nat) (acc:List UInt8),n<10^f->BZ f n acc=cond (Nat.beq f 0) acc (Lib.decDigits n++acc)
 |0,n,acc,_=>rfl
 |f+1,n,acc,h=>by
  simp only[BZ];cases aq:Nat.blt n 10 with
  |true=>
   have eW:n<10:=axu;rw[Lib.decDigits,dif_pos eW];rfl
  |false=>
   have eW:¬n<10:=λcG=>Bool.noConfusion (aq.symm.trans (show Nat.blt n 10=true by grind[Nat.blt_eq]));rw[az7,RW f (n/10) _ axs];conv=>rhs;rw[Lib.decDigits,dif_neg eW]
   cases f with
   |zero=>omega
   |succ f=>simp[Nat.beq]
structure JV(P:Program)(f:Nat):Prop where
 small:∀(i:Nat),i<100->∀w:World,Calls P f #[.int .i64 i] w λe w'=>e=.returned (.string ⟨(Lib.decDigits i).toArray⟩)/\w'=w
theorem ajx{f n:Nat}{s:aV}(bm:gL P f)(J:JV P f)(az:n<100):bM P gl f [.d (.int .i64 n)] s (.d (.str (BZ 2 n []))) s:=by
 refine u0 bm λw G ρ vs cq aE hv=> ?_;cases hv with
 |cons v1 _ o7 _ h1 h2=>
  cases h2;cases h1 with
  |d _ _ h1=>
   cases h1;refine⟨_,J.small n az w,?_⟩;rintro e w' ⟨rfl,rfl⟩;refine⟨_,rfl,λ_=>.d _ _ (.str _ _ ?_),Below.refl _ _⟩;grind[RW,Nat.beq]
structure JW(P:Program)(f:Nat):Prop where
 ok:∀(s:ByteArray),s.size<=9223372036854775806->∀v:Int,Lib.atoiAll s.data.toList=.ok v->∀w:World,Calls P f #[.string s] w λe w'=>e=.returned (.tuple #[.int .i64 v,.nilIface])/\Below w.heap.size w w'
theorem RX{f:Nat}{l:List UInt8}{v:Int}{s:aV}(bm:gL P f)(J:JW P f)(aH:l.length<=9223372036854775806)(hv:Lib.atoiAll l=.ok v):
  bM P gl f [.d (.str l)] s (.tuple [.d (.int .i64 v),.d .ig]) s:=by
 refine u0 bm λw G ρ vs cq aE jf=> ?_;cases jf with
 |cons v1 _ o7 _ h1 h2=>
  cases h2;cases h1 with
  |d _ _ h1=>cases h1 with
   |str sp _ mA=>
    subst mA;refine⟨_,J.ok sp axu v hv w,?_⟩;rintro e w' ⟨rfl,aq⟩;exact⟨_,rfl,λ_=>.tuple [.int .i64 v,.nilIface] _ (.cons _ _ _ _ (.d _ _ (.int _ _)) (.cons _ _ _ _ (.d _ _ .ig) .nil)),aq⟩
structure AtoiErr(P:Program)(gl:Nat->List D)(f pC lV:Nat):Prop where
 ajy:gl pC=[.hL]
 jK:gl lV=[.hL]
 range:∀(s:ByteArray),s.size<=281474976710656->Lib.atoiAll s.data.toList=.range->∀(aK:Value) (w:World),w.cell? ⟨pC,0,none⟩=some aK->(aK=.nilIface\/∃te w3,aK=.iface te w3)->
  Calls P f #[.string s] w λe w'=>∃t v,e=.returned (.tuple #[.int .i64 (Lib.atoiSat s.data.toList),.iface t v])/\Below w.heap.size w w'
 ajz:∀(s:ByteArray),s.size<=281474976710656->Lib.atoiAll s.data.toList=Lib.NumEnd.syntax->∀(aK:Value) (w:World),w.cell? ⟨lV,0,none⟩=some aK->(aK=.nilIface\/∃te w3,aK=.iface te w3)->
  Calls P f #[.string s] w λe w'=>∃t v,e=.returned (.tuple #[.int .i64 0,.iface t v])/\Below w.heap.size w w'
theorem RY{g:Nat}(aE:o5 gl w G)(h:gl g=[.hL]):∃t v,w.cell? ⟨g,0,none⟩=some (.iface t v):=by
 have:=aE.1 g;rw[h]at this;generalize hp:Value.pointer (some ⟨g,0,none⟩)=q at this;cases this with
 |eY b base off vs cs h1 h2=>
  cases h2 with
  |cons v _ vs _ av aZ=>
   cases av with
   |hL t v=>
    obtain⟨rfl,hp⟩:=hp;have:=RU h1 (j:=0) rfl;grind
theorem RZ{f pC lV:Nat}{l:List UInt8}{s:aV}(bm:gL P f)(J:AtoiErr P gl f pC lV)(aH:l.length<=281474976710656)(hv:Lib.atoiAll l=.range):
  bM P gl f [.d (.str l)] s (.tuple [.d (.int .i64 (Lib.atoiSat l)),.d .hL]) s:=by
 refine u0 bm λw G ρ vs cq aE jf=> ?_;cases jf with
 |cons v1 _ o7 _ h1 h2=>
  cases h2;cases h1 with
  |d _ _ h1=>cases h1 with
   |str sp _ mA=>
    subst mA;obtain⟨te,w3,ay⟩:=RY aE J.ajy;refine⟨_,J.range sp axu hv _ w ay (.inr ⟨te,w3,rfl⟩),?_⟩;rintro e w' ⟨t,v,rfl,aq⟩;exact⟨_,rfl,λ_=>.tuple [.int .i64 (Lib.atoiSat sp.data.toList),.iface t v] _ (.cons _ _ _ _ (.d _ _ (.int _ _)) (.cons _ _ _ _ (.d _ _ (.hL _ _)) .nil)),aq⟩
theorem R0{f pC lV:Nat}{l:List UInt8}{s:aV}(bm:gL P f)(J:AtoiErr P gl f pC lV)(aH:l.length<=281474976710656)(hv:Lib.atoiAll l=Lib.NumEnd.syntax):
  bM P gl f [.d (.str l)] s (.tuple [.d (.int .i64 0),.d .hL]) s:=by
 refine u0 bm λw G ρ vs cq aE jf=> ?_;cases jf with
 |cons v1 _ o7 _ h1 h2=>
  cases h2;cases h1 with
  |d _ _ h1=>cases h1 with
   |str sp _ mA=>
    subst mA;obtain⟨te,w3,ay⟩:=RY aE J.jK;refine⟨_,J.ajz sp axu hv _ w ay (.inr ⟨te,w3,rfl⟩),?_⟩;rintro e w' ⟨t,v,rfl,aq⟩;exact⟨_,rfl,λ_=>.tuple [.int .i64 0,.iface t v] _ (.cons _ _ _ _ (.d _ _ (.int _ _)) (.cons _ _ _ _ (.d _ _ (.hL _ _)) .nil)),aq⟩
def aBU:=@Nat.mul_one
def JX(P:Program)(t e f:Nat):Prop:=∀(b:Nat) (p v:Value) (bs:List Value) (s:ByteArray) (w:World),pB t e b p v bs w->bs.length+s.size<=140737488355328->
 Calls P f #[.pointer (some ⟨b,0,none⟩),.string s] w λx w'=>x=.returned (.tuple #[.int .i64 s.size,.nilIface])/\BX b v w w'/\
  ∃v',pB t e b (.pointer (some ⟨b,0,none⟩)) v' (bs++Lib.strCells s) w'/\(∀g,v'.ownBlock=some g->v.ownBlock=some g\/w.heap.size<=g)/\JK v e w w'
def JY(P:Program)(t e f:Nat):Prop:=∀(b:Nat) (p v:Value) (l:List UInt8) (w:World),pB t e b p v (Lib.byteCells l) w->
 Calls P f #[.pointer (some ⟨b,0,none⟩)] w λx w'=>x=.returned (.string ⟨l.toArray⟩)/\JM v l.length w w'
theorem R1{i b t e:Nat}{bs:List UInt8}(h:kj w G ρ i b (.hM t e bs)):∃p v,pB t e b p v (Lib.byteCells bs) w/\G b=some (.obj i,0)/\∀g,v.ownBlock=some g->G g=some (.dx i 1,0)/\∃c fz,w.heap[g]?=some (.cells c e fz):=by
 obtain⟨p,v,h1,h2,av,aZ⟩:=h;have hlen:=aCx bs;rcases aZ with⟨rfl,rfl⟩|⟨g,cap,c,fz,rfl,a2,a3,a4,a5,EA,JZ,ajA⟩
 .exact⟨p,_,⟨h1,av,⟨rfl,.inl ⟨rfl,rfl⟩⟩,by simp[Value.ownBlock]⟩,h2,λg aE=>by grind[Value.ownBlock]⟩
 .refine⟨p,_,⟨h1,av,⟨axs,.inr ⟨g,cap,c,fz,axv,azF _,a2,axs,axs,EA,axs,?_⟩⟩,?_⟩,h2,λk au=> ?_⟩
  .rw[hlen,aBU,ajA];rfl
  all_goals grind[Value.ownBlock]
theorem R3{i b t e:Nat}{p v:Value}{bs:List UInt8}(h:pB t e b p v (Lib.byteCells bs) w)(h1:G b=some (.obj i,0))(h2:∀g,v.ownBlock=some g->G g=some (.dx i 1,0)):kj w G ρ i b (.hM t e bs):=by
 obtain⟨g1,g2,g3,g4⟩:=h;have hlen:=aCx bs;refine⟨p,v,g1,h1,g2,?_⟩;rcases g3.2 with⟨rfl,h0⟩|⟨g,cap,c,fz,rfl,_,a2,a3,a4,a5,EA,JZ⟩
 .grind
 .refine .inr ⟨g,cap,c,fz,axv,a2,h2 g rfl,axs,axs,a5,axs,?_⟩;rw[hlen,aBU]at JZ;exact JZ
theorem J0{i b:Nat}{v:Value}{G':bJ}{s s':aV}{o':b3}(cq:ho w G ρ s)(aB:∀b L n,G b=some (L,n)->b<w.heap.size)(hi:ρ[i]?=some (b+1))(gp:s'=s.set i o')(aq:G b=some (.obj i,0))
  (hv:∀g,v.ownBlock=some g->G g=some (.dx i 1,0)) (au:BX b v w w') (dB:∀k,G' k=G k\/(w.heap.size<=k/\k<w'.heap.size/\G' k=some (.dx i 1,0)))
  (rl:∀k n,(k=b\/v.ownBlock=some k)->sF w k n->sF w' k n) (bb:kj w' G' ρ i b o'):
  ho w' G' ρ s'/\(∀b L n,G' b=some (L,n)->b<w'.heap.size)/\Good w G w' G':=by
 have hold:=λk au=>(dB k).resolve_right λh=>absurd h.1 (Nat.not_le.2 au);have R4:∀k,k<w.heap.size->(∀n,G k≠some (.obj i,n))->(∀n,G k≠some (.dx i 1,n))->w'.heap[k]?=w.heap[k]?:=λk fe h1 h2=>
  au.block k fe (λe=>h1 0 axu) (λe=>h2 0 (hv k e))
 have DT:da w G w' G':=by
  refine⟨λk off u ay=> ?_,λk o hm=> ?_,λk n hs=> ?_⟩
  .have fe:=JR ay.1;have aQ:∀L,G k≠some (L,0):=λL h=>absurd (ay.2.1 L 0 h) (aAM _);refine⟨?_,?_,ay.2.2⟩
   .rw[aBN (au.block k fe (λe=>aQ _ (by rw[e];exact aq)) (λe=>aQ _ (hv k e)))];exact ay.1
   .intro L n h;rw[hold k fe]at h;exact ay.2.1 L n h
  .obtain⟨h1,av,h2⟩:=hm;have fe:k<w.heap.size:=(aAk.1 h2).1;exact⟨axu,av,(R4 k fe (λn h=>axu) (λn h=>axu)).trans h2⟩
  .by_cases lL:k=b\/v.ownBlock=some k
   .simp_all
   .obtain⟨c,E,fz,h2,av⟩:=hs;exact⟨c,E,fz,(au.block k (aAk.1 h2).1 (λe=>lL (.inl e)) (λe=>lL (.inr e))).trans h2,av⟩
 refine⟨⟨by rw[gp,aAN];exact cq.1,λj c o aL o9=> ?_⟩,λk L n h=> ?_,?_⟩
 .by_cases nQ:j=i
  .grind
  .rw[gp,aAm (λe=>nQ e.symm)]at o9;refine(cq.2 j c o aL o9).bR DT (λ_ _ h=>h) (λk n h=> ?_) (λm k n h=> ?_)
   .grind
   grind
 .grind[Nat.lt_of_lt_of_le,BX.size]
 .refine⟨au.size,λk fe h=>⟨R4 k fe (λn cG=> ?_) (λn cG=> ?_),hold k fe⟩,λk n fe h=> ?_,λk n fe h=>axu,DT,au.os,au.out⟩;all_goals grind
theorem R5{f i t e:Nat}{bs x:List UInt8}{s:aV}(bm:gL P f)(W:JX P t e f)(hs:s[i]?=some (.hM t e bs))(hlen:bs.length+x.length<=140737488355328):
  bM P gl f [.ptr i 0,.d (.str x)] s (.tuple [.d (.int .i64 x.length),.d .ig]) (s.set i (.hM t e (bs++x))):=by
 refine⟨bm,λw G ρ vs cq aE aB hv=> ?_⟩;cases hv with
 |cons v1 _ o7 _ h1 h2=>cases h2 with
  |cons v2 _ ot _ av aZ=>
   cases aZ;cases h1 with
   |ptr _ _ b hi=>cases av with
    |d _ _ av=>cases av with
     |str sp _ mA=>
      subst mA;obtain⟨p,v,hA,aq,B0⟩:=R1 (cq.2 i b _ hi hs);have cm:sp.size=sp.data.toList.length:=rfl;refine(W b p v _ sp w hA (by grind[Lib.byteCells_length])).mono ?_;rintro x w' ⟨rfl,au,v',ze,jg,Ec⟩;have Nu:Lib.byteCells bs++Lib.strCells sp=Lib.byteCells (bs++sp.data.toList):=by simp[Lib.byteCells,Lib.strCells]
      rw[Nu]at ze;have auF:∀g,v'.ownBlock=some g->g<w'.heap.size:=by
       intro g og;rcases ze.2.2.1.2 with⟨rfl,_⟩|⟨g2,cap,c,fz,rfl,_,a2,_⟩
       .grind[Value.ownBlock]
       .simp[Value.ownBlock,azJ]at og;grind
      let G':bJ:=λk=>if v'.ownBlock=some k then some (.dx i 1,0)else G k
      have Bg:∀k,G' k=G k\/(w.heap.size<=k/\k<w'.heap.size/\G' k=some (.dx i 1,0)):=axv;have ajB:G' b=some (.obj i,0):=axv;obtain⟨bU,b4,dm⟩:=J0 (s':=s.set i (.hM t e (bs++sp.data.toList))) (G':=G') cq aB hi rfl aq (λg h=>(B0 g h).1) au Bg (λk n lL eM=>by
       rcases lL with rfl|lL
       .obtain⟨c,E,fz,q1,bK⟩:=eM;rw[hA.1]at q1;simp at q1;obtain⟨rfl,_,_⟩:=q1;exact⟨_,_,_,ze.1,bK⟩
       .obtain⟨c,E,fz,q1,bK⟩:=eM;obtain⟨_,c2,qm,cI⟩:=B0 k lL;rw[q1]at cI;simp at cI;obtain⟨rfl,rfl,rfl⟩:=cI;obtain⟨c',pc,ep,gR⟩:=Ec k c fz lL q1;exact⟨c',_,pc,ep,axs⟩) (R3 ze ajB (λg og=>axv))
      refine⟨_,G',ρ,rfl,?_,bU,b4,dm,λ_ _ h=>h⟩;exact .tuple [.int .i64 sp.size,.nilIface] _ (.cons _ _ _ _ (.d _ _ (by rw[cm];exact .int _ _)) (.cons _ _ _ _ (.d _ _ .ig) .nil))
theorem R6{f i t e:Nat}{bs:List UInt8}{s:aV}(bm:gL P f)(W:JY P t e f)(hs:s[i]?=some (.hM t e bs)):bM P gl f [.ptr i 0] s (.d (.str bs)) s:=by
 refine⟨bm,λw G ρ vs cq aE aB hv=> ?_⟩;cases hv with
 |cons v1 _ o7 _ h1 h2=>
  cases h2;cases h1 with
  |ptr _ _ b hi=>
   obtain⟨p,v,hA,aq,B0⟩:=R1 (cq.2 i b _ hi hs);refine(W b p v bs w hA).mono ?_;rintro x w' ⟨rfl,cX⟩;have iM:s.set i (.hM t e bs)=s:=by
    apply aBj;grind
   have cm:∀{n:Nat},w'.heap.size=w.heap.size\/True:=λ{_}=>.inr trivial;have main:BX b v w w'->pB t e b p v (Lib.byteCells bs) w'->(∀k n,(k=b\/v.ownBlock=some k)->sF w k n->sF w' k n)->∃v0 G' ρ',Ending.returned (Value.string ⟨bs.toArray⟩)=.returned v0/\dr w' G' ρ' .res v0 (.d (.str bs))/\ho w' G' ρ' s/\(∀b L n,G' b=some (L,n)->b<w'.heap.size)/\Good w G w' G'/\(∀i b:Nat,ρ[i]?=some b->ρ'[i]?=some b):=by
    intro au ze eM;obtain⟨bU,b4,dm⟩:=J0 (s':=s) (G':=G) cq aB hi iM.symm aq (λg h=>(B0 g h).1) au (λ_=>.inl rfl) eM (R3 ze aq (λg h=>(B0 g h).1));exact⟨_,G,ρ,rfl,.d _ _ (.str _ _ rfl),bU,b4,dm,λ_ _ h=>h⟩
   rcases cX with rfl|⟨a,ty,rfl⟩|⟨g,c,rfl,az,rfl⟩
   .exact main ⟨rfl,rfl,azI _,λ_ _ _ _=>rfl⟩ hA (λ_ _ _ h=>h)
   .have hold:∀k,k<w.heap.size->(w.drew.alloc (.view a ty)).heap[k]?=w.heap[k]?:=λk au=>Lib.alloc_old w.drew _ k au;refine main ⟨rfl,rfl,axt,λk au _ _=>hold k au⟩ ?_ (λk n _ eM=> ?_)
    .obtain⟨q1,bK,cI,ep⟩:=hA;refine⟨(hold b (aAk.1 q1).1).trans q1,bK,⟨cI.1,?_⟩,ep⟩;rcases cI.2 with h|⟨g,cap,cur,fz,aj,aD,aW,bQ⟩
     all_goals grind
    .obtain⟨c,E,fz,aj,aD⟩:=eM;exact⟨c,E,fz,(hold k (aAk.1 aj).1).trans aj,aD⟩
   .obtain⟨q1,bK,cI,ep⟩:=hA;have Ba:g≠b:=λe=>ep (by rw[e];rfl);have J1:∀k,k≠g->(w.drew.freeze ⟨g,0,none⟩ bs.length).heap[k]?=w.heap[k]?:=by
     intro k au;unfold World.freeze;rw[aAc az];simp[aBG];rw[aAc (λe=>au e.symm)];rfl
    have ajC:∀cur E fz,w.heap[g]?=some (.cells cur E fz)->∃pc,(w.drew.freeze ⟨g,0,none⟩ bs.length).heap[g]?=some (.cells cur E pc)/\pc.2<=max fz.2 bs.length:=by
     intro cur E fz h;have cG:w.drew.heap[g]?=some (.cells cur E fz):=h;obtain⟨lo,je⟩:=fz;unfold World.freeze;grind
    have wj:(w.drew.freeze ⟨g,0,none⟩ bs.length).heap.size=w.heap.size:=by
     unfold World.freeze;rw[aAc az];simp
    refine main ⟨by unfold World.freeze;rw[aAc az];rfl,by unfold World.freeze;rw[aAc az];rfl,axs,λk au auG ajD=>J1 k (λe=>ajD (by rw[e];rfl))⟩ ?_ (λk n lL eM=> ?_)
    .refine⟨(J1 b (λe=>Ba e.symm)).trans q1,bK,⟨cI.1,?_⟩,ep⟩;rcases cI.2 with⟨h,_⟩|⟨g2,cap,cur,fz,aj,aD,aW,bQ,cK⟩
     all_goals grind
    .obtain⟨c0,E,fz,aj,aD⟩:=eM;by_cases R7:k=g
     .subst R7;obtain⟨pc,f1,f2⟩:=ajC _ _ _ aj;exact⟨c0,E,pc,f1,aD⟩
     .exact⟨c0,E,fz,(J1 k R7).trans aj,aD⟩
end
def zf:Nat:=140737488355328
def J2(t e:Nat)(args:List ag)(s:aV):Out:=match args with
 |[.ptr i 0,.d (.str x)]=>match s[i]? with
  |some (.hM ek e' bs)=>cond (Nat.beq ek t&&Nat.beq e' e&&Nat.ble (bs.length+x.length) zf) (some (.tuple [.d (.int .i64 x.length),.d .ig],s.set i (.hM ek e' (bs++x)))) none
  |_=>none
 |_=>none
def J3(t e:Nat)(args:List ag)(s:aV):Out:=match args with
 |[.ptr i 0]=>match s[i]? with
  |some (.hM ek e' bs)=>cond (Nat.beq ek t&&Nat.beq e' e) (some (.d (.str bs),s)) none
  |_=>none
 |_=>none
def J4(args:List ag)(s:aV):Out:=match args with
 |[l,.d (.str sep)]=>match E9 s l with
  |some ss=>cond (Nat.ble ss.length zf&&Nat.ble (rY sep ss).length zf) (some (.d (.str (rY sep ss)),s)) none
  |none=>none
 |_=>none
def J5(args:List ag)(s:aV):Out:=match args with
 |[.d (.int .i64 (.ofNat n))]=>cond (Nat.blt n 100) (some (.d (.str (BZ 2 n [])),s)) none
 |_=>none
def J6(args:List ag)(s:aV):Out:=match args with
 |[.d (.str x)]=>cond (Nat.ble x.length 281474976710656) (match Lib.atoiAll x with
  |.ok v=>some (.tuple [.d (.int .i64 v),.d .ig],s)
  |.range=>some (.tuple [.d (.int .i64 (Lib.atoiSat x)),.d .hL],s)
  |Lib.NumEnd.syntax=>some (.tuple [.d (.int .i64 0),.d .hL],s)) none
 |_=>none
def J7(t e nC fs u1 fi gF:Nat):Nat->List ag->aV->Out:=λf args s=>
 cond (Nat.beq f nC) (J2 t e args s) (cond (Nat.beq f fs) (J3 t e args s) (cond (Nat.beq f u1) (J4 args s) (cond (Nat.beq f fi) (J5 args s) (cond (Nat.beq f gF) (J6 args s) none))))
structure tD(P:Program)(gl:Nat->List D)(t e nC fs u1 fi gF pC lV:Nat):Prop where
 oy:gL P nC
 cs:gL P fs
 B1:gL P u1
 ci:gL P fi
 ca:gL P gF
 w:JX P t e nC
 s:JY P t e fs
 j:JT P u1
 i:JV P fi
 a:JW P gF
 Fb:AtoiErr P gl gF pC lV
theorem ajE{P:Program}{gl:Nat->List D}{t e f:Nat}{args:List ag}{s:aV}{r:ag}{s':aV}(bm:gL P f)(W:JX P t e f)(h:J2 t e args s=some (r,s')):bM P gl f args s r s':=by
 unfold J2 at h;split at h
 .rename_i i x;split at h
  .rename_i ek e' bs hs;cases ay:(Nat.beq ek t&&Nat.beq e' e&&Nat.ble (bs.length+x.length) zf)with
   |false=>simp_all
   |true=>
    rw[ay]at h;simp only[azH]at ay;obtain⟨rfl,rfl⟩:=h;obtain rfl:=azR ay.1.1;obtain rfl:=azR ay.1.2;exact R5 bm W hs (azW ay.2)
  simp_all
 simp_all
theorem ajF{P:Program}{gl:Nat->List D}{t e f:Nat}{args:List ag}{s:aV}{r:ag}{s':aV}(bm:gL P f)(W:JY P t e f)(h:J3 t e args s=some (r,s')):bM P gl f args s r s':=by
 unfold J3 at h;split at h
 .rename_i i;split at h
  .rename_i ek e' bs hs;cases ay:(Nat.beq ek t&&Nat.beq e' e)with
   |false=>simp_all
   |true=>
    rw[ay]at h;simp only[azH]at ay;obtain⟨rfl,rfl⟩:=h;obtain rfl:=azR ay.1;obtain rfl:=azR ay.2;grind[R6]
  simp_all
 simp_all
theorem ajG{P:Program}{gl:Nat->List D}{f:Nat}{args:List ag}{s:aV}{r:ag}{s':aV}(bm:gL P f)(W:JT P f)(h:J4 args s=some (r,s')):bM P gl f args s r s':=by
 unfold J4 at h;split at h
 .rename_i l sep;split at h
  .rename_i ss hs;cases ay:(Nat.ble ss.length zf&&Nat.ble (rY sep ss).length zf)with
   |false=>simp_all
   |true=>
    rw[ay]at h;simp only[azH]at ay;obtain⟨rfl,rfl⟩:=h;exact E' bm W hs (azW ay.1) (azW ay.2)
  simp_all
 simp_all
theorem ajH{P:Program}{gl:Nat->List D}{f:Nat}{args:List ag}{s:aV}{r:ag}{s':aV}(bm:gL P f)(W:JV P f)(h:J5 args s=some (r,s')):bM P gl f args s r s':=by
 unfold J5 at h;split at h
 .rename_i n;cases ay:Nat.blt n 100 with
  |false=>simp_all
  |true=>
   rw[ay]at h;grind[ajx,Nat.blt_eq]
 simp_all
theorem ajI{P:Program}{gl:Nat->List D}{f pC lV:Nat}{args:List ag}{s:aV}{r:ag}{s':aV}(bm:gL P f)(W:JW P f)(E:AtoiErr P gl f pC lV)(h:J6 args s=some (r,s')):bM P gl f args s r s':=by
 unfold J6 at h;split at h
 .rename_i x;cases ay:Nat.ble x.length 281474976710656 with
  |false=>simp_all
  |true=>
   rw[ay]at h;have ay:=azW ay;grind[RX,RZ,R0]
 simp_all
theorem ajJ{P:Program}{gl:Nat->List D}{t e nC fs u1 fi gF pC lV:Nat}(X:tD P gl t e nC fs u1 fi gF pC lV):gT P gl (J7 t e nC fs u1 fi gF):=by
 intro f args s r s' h;unfold J7 at h;cases h1:Nat.beq f nC with
 |true=>rw[h1]at h;rw[azR h1];exact ajE X.oy X.w h
 |false=>
  rw[h1]at h;cases h2:Nat.beq f fs with
  |true=>rw[h2]at h;rw[azR h2];exact ajF X.cs X.s h
  |false=>
   rw[h2]at h;cases av:Nat.beq f u1 with
   |true=>grind[Nat.eq_of_beq_eq_true,ajG,tD.B1,tD.j]
   |false=>
    rw[av]at h;cases aZ:Nat.beq f fi with
    |true=>grind[Nat.eq_of_beq_eq_true,ajH,tD.ci,tD.i]
    |false=>
     rw[aZ]at h;cases bW:Nat.beq f gF with
     |true=>rw[bW]at h;rw[azR bW];exact ajI X.ca X.a X.Fb h
     |false=>simp_all
end Go.aJ
