/- Part of many_said. -/
import Derived.Test.YtdfonihgkhbpcaaGreatDoorM4
import Derived.OrdersIn
import Derived.Shelf.Strings.BuilderF
import Derived.Lib.Join
import Derived.Lib.ItoaNum
import Derived.Lib.AtoiAll
set_option linter.defProp false
set_option maxRecDepth 100000
set_option maxHeartbeats 8000000
set_option linter.unusedSimpArgs false
set_option linter.unusedVariables false
namespace Go.aG
variable {p:Prop}
section
variable {P:Program}{gl:Nat->List D}{n0 nt:Nat}{a:Act}{w w' w0:World}{G G' G0:bL}{ρ ρ' ρ0:List Nat}{lam lam':Nat->Option Nat}{st aU:ag}{o:Oper}{Q:Exit->Act->World->Prop}
variable {O:Option aD->World->bL->List Nat->Prop}{Y:jb Prop}{yi fV:Nat}
structure uO(O:Option aD->World->bL->List Nat->Prop)(ρ0:List Nat)(fV:Nat):Prop where
 run:∀p W G ρ dH G' ρ',O p W G ρ->Good W G dH G'->(∀i b:Nat,ρ0[i]?=some b->ρ'[i]?=some b)->O p dH G' ρ'
 pre:∀p W G ρ,O p W G ρ->∀i b:Nat,ρ0[i]?=some b->ρ[i]?=some b
 k8:∀p W G ρ,O p W G ρ->∃r,W.heap[fV]?=some (.loop r)
def CN(P:Program)(gl:Nat->List D)(O:Option aD->World->bL->List Nat->Prop)(Y:jb Prop)(fV m:Nat):Prop:=
 ∀(W:World) (G:bL) (ρ:List Nat) (s:aY) (g:List Value) (h:List ah) (d:Option aD->aY->Prop),O none W G ρ->qf gl W G ρ s->cu W G ρ g h->Y h s d->
  YieldAt Fence.wide m P fV ⟨g⟩ W λe a=>∃(c:Option aD) (G':bL) (ρ':List Nat) (f:aY),e=.returned (.bool c.isNone)/\O c a G' ρ'/\qf gl a G' ρ' f/\de W G a G'/\
   (∀b,b≠fV->b<W.heap.size->G b=none->a.heap[b]?=W.heap[b]?/\G' b=none)/\(∀i b:Nat,ρ[i]?=some b->ρ'[i]?=some b)/\d c f
def rJ(n0:Nat)(gl:Nat->List D)(nt:Nat)(O:Option aD->World->bL->List Nat->Prop)(K:ag->Option aD->Prop)(a':Act)(w':World):Prop:=
 nt<=a'.tmps.size/\∃G' ρ' lam' aU a,Marks n0 w' G' a'.defers/\b2 gl w' G' ρ' lam' a'.tmps aU/\O a w' G' ρ'/\K aU a
def uP(n0:Nat)(gl:Nat->List D)(nt:Nat)(O:Option aD->World->bL->List Nat->Prop)(K:aD->ag->Option aD->Prop):Exit->Act->World->Prop
 |.normal,a,w'=>rJ n0 gl nt O (K .normal) a w'
 |.exit i,a,w'=>rJ n0 gl nt O (K (.exit i)) a w'
 |.ret,a,w'=>rJ n0 gl nt O (K .ret) a w'
 |_,_,_=>False
theorem Az{pp:Option aD}{K:ag->Option aD->Prop}{a':Act}(c:uO O ρ0 fV)(a:O pp w G ρ)(h:cP n0 gl nt w G ρ (λst=>K st pp) a' w'):rJ n0 gl nt O K a' w':=by
 obtain⟨d,G',ρ',lam',aU,e,aX,f,g,j⟩:=h;exact⟨d,G',ρ',lam',aU,pp,e,aX,c.run _ _ _ _ _ _ _ a f (λi b k=>g i b (c.pre _ _ _ _ a i b k)),j⟩
theorem RX{n:Nat}{next:Act->World->Prop}(h:o.wp P a w next Q):o.wpIn Fence.wide n P a w next Q:=by
 refine⟨λ_ _=>trivial,?_⟩;rw[show Fence.wide.round=none from rfl,Oper.semAt_none];unfold Oper.wp at h;generalize (execOp a.eval o).run P w=r at h;cases r with
 |ok k w'=>
  cases k with
  |value v=>exact h
  |skip=>exact h
  |defer d=>exact h
  |enter f args=>exact⟨λh=>by grind[Fence.wide],callsIn_wide.2 h⟩
  |row r args=>
   refine⟨λh=>by grind[Fence.wide],?_⟩;intro c i _;obtain⟨v,g,j,b⟩:=h c i;exact⟨v,g,j,stepsIn_wide.2 b⟩
  |_=>exact h.elim
 |halt e w'=>cases e<;>first|exact h|exact h.elim
theorem Marks.akU{l:List Deferred}(h:Marks n0 w G l)(e:∃r,w.heap[fV]?=some (.loop r))(hi:∀b,b≠fV->b<w.heap.size->G b=none->w'.heap[b]?=w.heap[b]?/\G' b=none):Marks n0 w' G' l:=by
 obtain⟨d,c,a,f⟩:=h;refine⟨d,c,a,λD g=> ?_⟩;grind
def AA:I->Bool
 |.n6 .. =>false
 |_=>true
theorem KU{b:Type}{x:Option b}{f:b->I}{i:I}(c:∀a,AA (f a)=true)(h:x.map f=some i):AA i=true:=by
 obtain⟨a,_,rfl⟩:=aDr.1 h;simp_all
theorem axK{b:Type}{x:Option b}{f:b->Option I}{i:I}(c:∀a,f a=some i->AA i=true)(h:x.bind f=some i):AA i=true:=by
 obtain⟨a,_,h⟩:=aCL.1 h;grind
theorem akV{an:ey}{m:fh}{d:Option Nat}{f:aG.O}{args:List aG.O}(h:jA P an m o=some (.n6 d f args)):
  ∃c a t,o.op=.call c/\o.dst=d/\c.callee=.value a/\bW P t a=some f/\hW (λx y=>∃t,bW P t x=some y) c.args.toList args:=by
 have k:AA (.n6 d f args)=false:=rfl;by_cases j:∃c a,o.op=.call c/\c.callee=.value a
 .obtain⟨c,a,e,g⟩:=j;unfold jA at h;rw[e]at h;simp only[g,aDt,aCL]at h;obtain⟨l,b,h⟩:=h;have b:=JU (f:=λ_ i=>c.argTypes.getD i 0) b;split at h
  .split at h
   .grind
   .obtain⟨rfl,rfl,rfl⟩:=h;exact⟨c,_,0,e,rfl,g,rfl,b⟩
  grind[Option.bind_eq_some_iff]
 .have:AA (.n6 d f args)=true:=by
   unfold jA at h;split at h;case h_25=>
    rename_i c e;split at h
    .simp_all
    all_goals
     repeat' first
      |(cases h)
      |(cases h)
      |(refine KU (λ_=> ?_) h<;>rfl)
      |(replace h:=aCL.1 h;obtain⟨_,_,h⟩:=h)
      |(unfold zy at h)
      |(split at h)
      |(dsimp only at h;split at h)
   all_goals
    repeat' first
     |(cases h;done)
     |(cases h;rfl)
     |(exact KU (λ_=>rfl) h)
     |(refine KU (λ_=> ?_) h;split<;>rfl)
     |(replace h:=aCL.1 h;obtain⟨_,_,h⟩:=h)
     |(unfold zy at h)
     |(split at h)
     |(dsimp only at h;split at h)
  simp_all
theorem KV{R:Type}{A:mT R}{Y:jb R}{i:I}{st:ag}{pp:Option aD}{K:ag->Option aD->R}:
  (∃j d f args,i=.n6 d f args/\aO gl st f=.f' j/\mV A gl Y yi i st pp K=A.guard (Nat.beq j yi) (BN A gl Y d args st pp K))\/mV A gl Y yi i st pp K=step A gl i st λst=>K st pp:=by
 cases i with
 |n6 d f args=>
  cases hv:aO gl st f with
  |f' j=>exact .inl ⟨j,d,f,args,rfl,hv,by simp_all[mV,BO]⟩
  |_=>simp_all[mV,BO]
 |_=>exact .inr rfl
theorem qf.akW{c:World}{s':aY}(h:b2 gl w G ρ lam a.tmps st)(d:qf gl c G' ρ' s')(f:de w G c G')(e:∀i b:Nat,ρ[i]?=some b->ρ'[i]?=some b):
  b2 gl c G' ρ' (λ_=>none) a.tmps {st.lP with s:=s'} where
 aR t:=.cz ((RR (h.aR t)).keep f λi b=>e i (b+1))
 bM t cs g:=by grind[ag.lP]
 nb _ _:=rfl
 ob:=d.ob
 eU:=d.eU
 lt:=d.lt
theorem akX{n:Nat}{an:ey}{m:fh}{d:Option Nat}{f:aG.O}{args:List aG.O}{pp:Option aD}{K:ag->Option aD->Prop}(hz:CN P gl O Y fV (n-1))(y:uO O ρ0 fV)(s5:ρ0[yi]?=some (fV+1))(p:b6 n0 gl nt w G ρ lam a st)
  (b:O pp w G ρ) (h:jA P an m o=some (.n6 d f args)) (k:kX nt o=true) (R:aO gl st f=.f' yi) (g:BN (bA P gl) gl Y d args st pp K):o.wpIn Fence.wide n P a w (rJ n0 gl nt O K) Q:=by
 obtain⟨c,t,aq,M,i,L,nL,F⟩:=akV h;obtain⟨j,g⟩:=g;simp only[aCx]at j;obtain rfl:pp=none:=az8;obtain⟨ao,s⟩:=dY nL p.rel;rw[R]at s;have x:=s;have A:a.eval t=.func (.yield fV) #[] #[]:=by
  generalize a.eval t=v at x;cases x with
  |f' _ l aE=>
   have:=y.pre _ _ _ _ b yi _ s5;simp_all
 have xA:=E9 p F j.2;obtain⟨W,ad,H,S,V,uD⟩:=hz w G ρ st.s _ _ _ b p.rel.wd xA g;have B:(execOp a.eval o).run P w=.ok (.round fV W ad H S) w:=by
  have e:(#[]:Array Value)++(⟨c.args.toList.map a.eval⟩:Array Value)++ #[]=⟨c.args.toList.map a.eval⟩:=az7;simp[execOp,M,aCD,resolve,L,A,Deferred.ofValue,aCK,aCH,invoke];rw[<-V];congr 2;grind
 refine⟨λ_ _=>trivial,?_⟩;rw[show Fence.wide.round=none from rfl,Oper.semAt_none,B,Oper.uponIn_round];refine⟨λh=>by grind[Fence.wide],uD.mono ?_⟩;rintro e dH ⟨z,G',ρ',s',rfl,u,E,J,C,N,q⟩;have r:=qf.akW p.rel E J N;have Z:=p.eT.akU (y.k8 _ _ _ _ b) C;rw[i];cases d with
 |none=>exact⟨p.sz,G',ρ',_,_,z,Z,r,u,q⟩
 |some d=>
  have U:d<a.tmps.size:=by
   unfold kX at k;rw[i]at k;exact aC2 (by grind[Nat.blt_eq]) p.sz
  exact⟨aAe,G',ρ',_,_,z,by grind[put_defers],r.set U (.cz (.d _ _ (.bool _))),u,q⟩
theorem akY{n:Nat}{an:ey}{m:fh}{i:I}{pp:Option aD}{K:ag->Option aD->Prop}(r:CN P gl O Y fV (n-1))(g:uO O ρ0 fV)(s:ρ0[yi]?=some (fV+1))(p:b6 n0 gl nt w G ρ lam a st)
  (c:O pp w G ρ) (h:jA P an m o=some i) (e:kX nt o=true) (b:mV (bA P gl) gl Y yi i st pp K):o.wpIn Fence.wide n P a w (rJ n0 gl nt O K) Q:=by
 rcases KV (gl:=gl) (yi:=yi) (A:=bA P gl) (Y:=Y) (i:=i) (st:=st) (pp:=pp) (K:=K)with⟨j,d,f,args,rfl,q,he⟩|he
 .rw[he]at b;obtain⟨l,b⟩:=b;grind[Nat.eq_of_beq_eq_true,akX]
 .rw[he]at b;exact RX (Oper.wp_mono (λk w' h=>Az g c h) (JV p h e b))
theorem b6.Gc{pp:Option aD}{K:ag->Option aD->Prop}(p:b6 n0 gl nt w G ρ lam a st)(b:O pp w G ρ)(h:K st pp):rJ n0 gl nt O K a w:=
 ⟨p.sz,G,ρ,lam,st,pp,p.eT,p.rel,b,h⟩
theorem axL{R:Type}(A:mT R)(gl:Nat->List D)(Y:jb R)(yi:Nat)(g:cm)(l:List cm)(st:ag)(pp:Option aD)(K:ag->Option aD->R):
  ie A gl Y yi (g::l) st pp K=ie A gl Y yi [g] st pp λst pp=>ie A gl Y yi l st pp K:=by
 obtain⟨g,i⟩:=g;cases g with
 |none=>rfl
 |some q=>simp_all[ie]
theorem KW{n k:Nat}{ops:Array Oper}{rest:List Nat}(c:ops[k]?=some o)(b:o.guard=none)(h:o.wp P a w (λa' w'=>wpOpsIn Fence.wide n P ops Q rest a' w') Q):
  wpOpsIn Fence.wide n P ops Q (k::rest) a w:=by
 simp_all[wpOpsIn,Region.wanted,RX]
theorem KX{n:Nat}{ops:Array Oper}{an:ey}{K:ag->Option aD->Prop}(J:CN P gl O Y fV (n-1))(u:uO O ρ0 fV)(N:ρ0[yi]?=some (fV+1)):
  ∀(fuel:Nat) {l:List Oper} {k:Nat} {m:fh} {v:List cm} {w:World} {G:bL} {ρ:List Nat} {lam:Nat->Option Nat} {a:Act} {st:ag} {pp:Option aD},l.length<=fuel->
  (∀j,ops[k+j]?=l[j]?)->hV P an nt ops m l=some v->b6 n0 gl nt w G ρ lam a st->O pp w G ρ->ie (bA P gl) gl Y yi v st pp K->
  (∀a' w',rJ n0 gl nt O K a' w'->Q .normal a' w')->wpOpsIn Fence.wide n P ops Q (List.range' k l.length) a w
 |_,[],k,m,v,w,G,ρ,lam,a,st,pp,_,_,r,p,t,c,x=>by
  simp[hV,aCz]at r;subst r;exact x _ _ (p.Gc t c)
 |0,o::l,k,m,v,w,G,ρ,lam,a,st,pp,z8,_,_,_,_,_,_=>az8
 |fuel+1,o::l,k,m,v,w,G,ρ,lam,a,st,pp,z8,aE,r,p,t,c,x=>by
  have R:ops[k]?=some o:=by have:=aE 0;simp_all
  rcases vS r with⟨g,f,h1,E,rfl⟩|⟨cO,eM,bC,d,ins,e,f,rfl,ai,bk,he,E,rfl⟩
  .obtain⟨y,c2,S,c4⟩:=xT h1;obtain⟨aI,i⟩:=g;rw[aCU,aDH];simp[wpOpsIn,R];have next:∀a' w',rJ n0 gl nt O (λst pp=>ie (bA P gl) gl Y yi f st pp K) a' w'->wpOpsIn Fence.wide n P ops Q (List.range' (k+1) l.length) a' w':=by
    rintro a' w' ⟨z,G',ρ',lam',aU,V,B,aX,F,H⟩;refine KX J u N fuel (l:=l) (k:=k+1) (m:=vE P m o) az8 (λj=> ?_) E ⟨aX,B,z⟩ F H x;have:=aE (j+1);grind
   have aq:∀{K':ag->Option aD->Prop},(∀st pp,K' st pp->ie (bA P gl) gl Y yi f st pp K)->o.wpIn Fence.wide n P a w (rJ n0 gl nt O K') Q->o.wpIn Fence.wide n P a w (wpOpsIn Fence.wide n P ops Q (List.range' (k+1) l.length)) Q:=
    λC h=>Oper.wpIn_mono (λa' w' h=>next a' w' (by obtain⟨z,G',ρ',lam',aU,V,B,aX,F,H⟩:=h;exact⟨z,G',ρ',lam',aU,V,B,aX,F,C _ _ H⟩)) h
   have KS:mV (bA P gl) gl Y yi i st pp (λst pp=>ie (bA P gl) gl Y yi f st pp K)->o.wpIn Fence.wide n P a w (wpOpsIn Fence.wide n P ops Q (List.range' (k+1) l.length)) Q:=by
    intro c;rcases y with y|rfl
    .exact aq (λ_ _ h=>h) (akY J u N p t y S c)
    .exact c.elim
   have Z:∀{K':ag->Option aD->Prop},(∀st pp,K' st pp->ie (bA P gl) gl Y yi f st pp K)->K' (st.dQ i.dst (.tuple [])) pp->wpOpsIn Fence.wide n P ops Q (List.range' (k+1) l.length) (a.put o.dst undef) w:=
    λC h=>next _ _ (Az u t (Cv p c4.symm S (C _ _ h)))
   rcases J5 c2 p.rel.aR with⟨rfl,hw⟩|⟨s,want,rfl,⟨b,au,hw⟩|⟨au,hw⟩|⟨g1,g2⟩⟩
   .rw[hw];exact KS c
   .rw[hw];simp only[ie,au]at c;cases r:cond want b (!b)with
    |true=>simp_all
    |false=>rw[r]at c;exact⟨λ_ _=>trivial,Z (K':=λst pp=>ie (bA P gl) gl Y yi f st pp K) (λ_ _ h=>h) c⟩
   .rw[hw];simp[ie,au]at c;exact⟨λ_ _=>trivial,Z (K':=λst pp=>ie (bA P gl) gl Y yi f st pp K) (λ_ _ h=>h) c⟩
   .exfalso;simp[ie]at c;first
     |exact c
     |(split at c
       .rename_i b au;exact g1 b au
       .rename_i au;exact g2 au
       .exact c)
  .obtain⟨s,ay,i,ar,sz,b',rfl,M⟩:=vQ ai;have lU:ops[k+1]?=some cO:=az8;have ru:ops[k+2]?=some eM:=az8;have gu:step (bA P gl) gl (.ln d s ay i ar sz b') st λad=>ie (bA P gl) gl Y yi f ((ad.dQ (some e) .undef).dQ none .undef) pp K:=c;obtain⟨v1,v2,w1,b,aJ,us,xo,bZ,G',n',y,aB,fz,r0,b7,cq,dG,rv,Aa,jj,mu,W,uB,Cy⟩:=FE p M gu;obtain⟨U,hy,jG,sS⟩:=FJ M r0;obtain⟨aM,aP,bT,bt,sR,aQ,t3,q1,bG,cM,dB,gE,jW,pb,p7,rm,_⟩:=M.ex;have L:=aC2 bk p.sz;have sT:=aC2 he p.sz;rw[aCU,aCU,aCU,aDH,aDH,aDH];refine KW R cM (gg b7 ?_);rw[bG];refine KW lU jW (gg (cq _ _ ?_ ?_) ?_)
   .rw[rr L,aCT rfl]
   .rw[rr L,aCV (aCP hy)]
   rw[gE];refine KW ru rm (vH (dG _ _ ?_ ?_ rv) ?_)
   .rw[rr aA5,aCT rfl]
   .rw[eval_put (λq A=>(U q A).1),eval_put (λq A=>(U q A).2)]
   rw[p7];have dn:=J8 (v2:=v2) mu uB L sT;refine KX J u N fuel (l:=bC) (k:=k+1+1+1) (m:=m) az9 (λj=> ?_) E ⟨dn,p.eT.good W,aBH⟩ (u.run _ _ _ _ _ _ _ t W (u.pre _ _ _ _ t)) Cy x;have:=aE (j+3);grind
theorem akZ{l a:List Nat}(h:∀i b:Nat,l[i]?=some b->a[i]?=some b):l.length<=a.length:=by
 rcases aFp l.length with c|c
 .omega
 .have d:l[l.length-1]?=some (l[l.length-1]' az6):=aCB az6;grind
theorem uO.forget(d:uO O ρ0 fV){p:Option aD}{n:Nat}(c:O p w G ρ)(e:∀b L n,G b=some (L,n)->b<w.heap.size)(g:ρ0.length<=n){a:List Nat}(h:a=ρ\/a=ρ.take n):O p w G a:=by
 refine d.run _ _ _ _ _ _ _ c (Good.refl e) λi b f=> ?_;have j:=d.pre _ _ _ _ c i b f;grind
theorem ak0{K:aD->ag->Option aD->Prop}(s:uO O ρ0 fV){ts g:List Nat}{I:Nat->ag->Prop}{n N:Nat}(d:ρ0.length<=N){e:Exit}{a':Act}{w':World}
  (h:uP n0 gl nt O (λx st p=>match x with|.normal=>(bA P gl).guard p.isNone (aG.forget (bA P gl) N ts g st (λaU=>∃m,m<n/\I m aU))|x=>K x st p) e a' w'):
  Exit.then (λa' w'=>∃m,m<n/\∃G ρ lam st,b6 n0 gl nt w' G ρ lam a' st/\O none w' G ρ/\I m st) (uP n0 gl nt O K) e a' w':=by
 cases e with
 |normal=>
  obtain⟨b,G',ρ',lam',aU,t,c,aX,f,v,r,m,q,l⟩:=h;have a:t=none:=az8;subst a;have p:b6 n0 gl nt w' G' ρ' lam' a' aU:=⟨aX,c,b⟩;obtain⟨o,u,k,j⟩:=p.forget (n:=N) r;exact⟨m,q,G',o,u,_,k,s.forget f aX.lt d j,l⟩
 |exit i=>exact h
 |ret=>exact h
 |_=>exact h.elim
theorem ak1{n:Nat}{K:aD->ag->Option aD->Prop}{b:eL}{y:Code}(d:∀{w:World} {G:bL} {ρ:List Nat} {lam:Nat->Option Nat} {a:Act} {st:ag} {pp:Option aD},b6 n0 gl nt w G ρ lam a st->O pp w G ρ->
   hx (bA P gl) gl Y yi b st pp K->y.wpIn Fence.wide n P (uP n0 gl nt O K) a w) {e:Exit} {a':Act} {w':World}
  (h:uP n0 gl nt O (λx st p=>match x with|.normal=>hx (bA P gl) gl Y yi b st p K|x=>K x st p) e a' w'):
  Exit.then (y.wpIn Fence.wide n P (uP n0 gl nt O K)) (uP n0 gl nt O K) e a' w':=by
 cases e with
 |normal=>
  obtain⟨c,G',ρ',lam',aU,k,f,aX,g,j⟩:=h;exact d ⟨aX,f,c⟩ g j
 |exit i=>exact h
 |ret=>exact h
 |_=>exact h.elim
theorem ak2{K:aD->ag->Option aD->Prop}{i:Nat}{e:Exit}{a':Act}{w':World}
  (h:uP n0 gl nt O (λx st p=>match x with|.exit j=>cond (Nat.beq j i) (K .normal st p) (K (.exit j) st p)|x=>K x st p) e a' w'):Exit.inBlock i (uP n0 gl nt O K) e a' w':=by
 cases e with
 |normal=>exact h
 |ret=>exact h
 |exit j=>
  obtain⟨b,G',ρ',lam',aU,g,d,aX,f,a⟩:=h;simp[Exit.inBlock];by_cases c:j=i
  .subst c;simp at a;simp;exact⟨b,G',ρ',lam',aU,g,d,aX,f,a⟩
  .have:Nat.beq j i=false:=by simp_all[aDS]
   simp[this,cond]at a;simp[c,aCW];exact⟨b,G',ρ',lam',aU,g,d,aX,f,a⟩
 |_=>exact h.elim
theorem ak3(vT:xU P gl){n:Nat}{an:ey}{m:fh}(hz:CN P gl O Y fV (n-1))(r:uO O ρ0 fV)(s5:ρ0[yi]?=some (fV+1)):
  ∀(c:Code) {l o:List (List Nat×List Nat)} {k:eL} {w:World} {G:bL} {ρ:List Nat} {lam:Nat->Option Nat} {a:Act} {st:ag} {pp:Option aD} {K:aD->ag->Option aD->Prop},
  dv P an nt m c l=some (k,o)->b6 n0 gl nt w G ρ lam a st->O pp w G ρ->hx (bA P gl) gl Y yi k st pp K->c.wpIn Fence.wide n P (uP n0 gl nt O K) a w:=by
 intro c;induction c with
 |skip=>
  intro l o k w G ρ lam a st pp K d p j f;obtain⟨rfl,rfl⟩:=d;exact wpIn_skip (p.Gc j f)
 |region id ops H=>
  intro l o k w G ρ lam a st pp K d p j f;simp[dv]at d;split at d
  .rename_i is t;cases H with
   |true=>
    simp at d;split at d
    .rename_i dF fW;obtain⟨rfl,rfl⟩:=d;refine aEQ.2 (aD4 (vT (K:=λe st=>K e st pp) t fW p f) λe s w' h=> ?_);cases e with
     |normal=>exact Az (K:=K .normal) r j h
     |exit i=>exact Az (K:=K (.exit i)) r j h
     |ret=>exact Az (K:=K .ret) r j h
     |_=>exact h.elim
    .split at d
     .rename_i c M;obtain⟨rfl,rfl⟩:=d;obtain⟨ao,e,ar,bq,aT,_,R,c2,S,rfl⟩:=J' M;obtain⟨k1,k2⟩:=aiK f;exact aEQ.2 (QK t R c2 S p ⟨Good.refl p.rel.lt,λ_ _ h=>h⟩ k1 k2 λs w' h=>Az r j h)
     .obtain⟨rfl,rfl⟩:=d;exact f.elim
   |false=>
    obtain⟨rfl,rfl⟩:=d;refine wpIn_region ?_;have:List.range ops.size=List.range' 0 ops.toList.length:=aBI;rw[this];exact KX hz r s5 _ (aCw _) (λaq=>az7) t p j f λs w' h=>h
  simp_all
 |seq x y C E=>
  intro l o k w G ρ lam a st pp K d p j f;simp[dv]at d;split at d
  .rename_i vx u ai;split at d
   .rename_i F l2 v;simp at d;obtain⟨rfl,rfl⟩:=d;refine wpIn_seq (aEu (C ai p j f) λe a w h=> ?_);exact ak1 (λp j f=>E v p j f) h
   simp_all
  simp_all
 |cond c x y C E=>
  intro l o k w G ρ lam a st pp K d p j f;simp[dv]at d;split at d
  .rename_i vx co u J ai;split at d
   .rename_i F l2 v;simp[aCz,aC6]at d;obtain⟨rfl,rfl⟩:=d;simp[hx]at f;obtain⟨ad,ej⟩:=dY J p.rel;split at f
    .grind[wpIn_cond_true,wpIn_cond_false,dq.bool]
    .exact f.elim
   simp_all
  simp_all
 |block i b ih=>
  intro l o k w G ρ lam a st pp K d p j f;simp[dv]at d;split at d
  .rename_i kx u au;simp[aCz,aC6]at d;obtain⟨rfl,rfl⟩:=d;exact wpIn_block (aEu (ih au p j f) λe a w h=>ak2 h)
  simp_all
 |loop b ih=>
  intro l o k w G ρ lam a st pp K d p j f;cases l with
  |nil=>grind[dv]
  |cons q l=>
   obtain⟨ts,bs⟩:=q;simp[dv]at d;split at d
   .rename_i kx u au;simp only[aCz,aC6]at d;obtain⟨rfl,rfl⟩:=d;simp only[hx]at f;obtain⟨hp,kB,I,n,Q,uD⟩:=f;have L:pp=none:=az8;subst L;obtain⟨Z,pd,V,U⟩:=p.forget (n:=st.s.length) kB;have B:∀{w:World} {G:bL} {ρ:List Nat} {lam:Nat->Option Nat} {a:Act} {st:ag},b6 n0 gl nt w G ρ lam a st->O none w G ρ->ρ0.length<=st.s.length:=λp j=>by
     rw[<-p.rel.ob.1];exact akZ (r.pre _ _ _ _ j)
    refine aEQ.2 (wp_loop_ghost (λn a w=>∃G ρ lam st,b6 n0 gl nt w G ρ lam a st/\O none w G ρ/\I n st) n ⟨G,Z,pd,_,V,r.forget j p.rel.lt (B p j) U,Q⟩ ?_);rintro hy bp w1 ⟨gZ,lB,Kc,N,z,A,W⟩;refine aD4 (aEQ.1 (ih au z A (uD hy N W))) λe s w' h=> ?_;exact ak0 r (B z A) h
   simp_all
 |exit i=>
  intro l o k w G ρ lam a st pp K d p j f;simp only[dv,aCz,aC6]at d;obtain⟨rfl,rfl⟩:=d;exact wpIn_exit (p.Gc j f)
 |ret=>
  intro l o k w G ρ lam a st pp K d p j f;simp only[dv,aCz,aC6]at d;obtain⟨rfl,rfl⟩:=d;exact wpIn_ret (p.Gc j f)
 |rangeFunc g ps x y _ _=>
  intro l o k w G ρ lam a st pp K d p j f;simp only[dv]at d;split at d
  .simp only[aFq,aCz,aC6]at d;obtain⟨_,rfl,_⟩:=d;exact f.elim
  simp_all
 |scope _=>grind[dv]
 |label _=>grind[dv]
 |goto _=>grind[dv]
 |refuse _=>
  intro l o k w G ρ lam a st pp K d p j f;simp only[dv,aCz,aC6]at d;obtain⟨rfl,rfl⟩:=d;exact f.elim
end
section
variable {P:Program}{gl:Nat->List D}{n0 nt:Nat}{a:Act}{w w' w0:World}{G G' G0:bL}{ρ ρ' ρ0:List Nat}{lam lam':Nat->Option Nat}{st aU:ag}{o:Oper}{Q:Exit->Act->World->Prop}
def KZ(r0:Loop)(p:Option aD)(r:Loop):Prop:=
 ∃c:Option Code,r={r0 with state:=if c.isNone then .ready else .done,pending:=c}/\(∀j,c=some j->(x8 j).isSome=true)/\p=c.bind x8
theorem KZ.none{r0 r:Loop}(e:r0.state=.ready)(d:r0.pending=none)(h:KZ r0 none r):r=r0:=by
 obtain⟨c,rfl,b,a⟩:=h;cases c with
 |none=>cases r0;subst e d;rfl
 |some j=>
  have:=b j rfl;simp at a;rw[<-a]at this;simp at this
def Kept(w0:World)(G0:bL)(ρ0:List Nat)(a:Act)(c:Nat->ah)(r0:Loop)(p:Option aD)(W:World)(G:bL)(ρ:List Nat):Prop:=
 (∃r,KZ r0 p r/\Still w0 G0 ρ0 a c r W G ρ)/\∀i b:Nat,(ρ0++[w0.heap.size+1+1])[i]?=some b->ρ[i]?=some b
theorem ak4{g:Nat->ah}{r0:Loop}:uO (Kept w0 G0 ρ0 a g r0) (ρ0++[w0.heap.size+1+1]) (w0.heap.size+1) where
 run p W G ρ j G' ρ' h e hp:=by
  obtain⟨⟨r,d,c⟩,_⟩:=h;exact⟨⟨r,d,c.run e λi b f=>hp i b (iP i _ f)⟩,hp⟩
 pre p W G ρ h:=h.2
 k8 p W G ρ h:=by obtain⟨⟨r,d,c⟩,_⟩:=h;exact⟨r,c.k8⟩
theorem ak5(ps:List Nat)(vs:List Value)(tmps:Array Value):
  (((⟨ps⟩:Array Tmp).zip (⟨vs⟩:Array Value)).foldl (λtmps (x:Tmp×Value)=>match x with|(t,a)=>tmps.setIfInBounds t a) tmps)=nW tmps ps vs:=akS ps vs tmps
theorem ak6{an:ey}{m:fh}{x y:Code}{l1 l2 M wh:List (List Nat×List Nat)}{d e:eL}(K:dv P an nt m x l1=some (d,l2))(F:dv P an nt m y M=some (e,wh))(Z:kY d=true)(x9:kY e=true)
  {r0:Loop} {st0:ag} (aq:st0.bM=λ_=>none) (o:r0.state=.ready) (g:r0.pending=none) (v:r0.tmps=a.tmps) {ps:List Nat} (C:r0.params=⟨ps⟩) (B:r0.assign=x) (w:r0.body=y) (N:∀p,p∈ps->p<a.tmps.size) (L:nt<=a.tmps.size) (n:Nat):
  CN P gl (Kept w0 G0 ρ0 a st0.aR r0) (sh (bA P gl) (run (bA P gl) gl d) (run (bA P gl) gl e) ps st0) (w0.heap.size+1) n:=by
 intro ad G ρ s vs t W Y U l V;obtain⟨⟨r,u,h⟩,vP⟩:=Y;obtain rfl:=u.none o g;have S:t.length=ps.length:=by
  have:=V.1;simp_all
 have ao:=l.length.trans S;refine⟨r.fn,_,r.assign,r.body,run_yield h.k8 az8,?_⟩;have E:sh (bA P gl) (run (bA P gl) gl d) (run (bA P gl) gl e) ps ⟨st0.aR,λ_=>none,s⟩ t s W:=by
  grind[sh]
 have:=akT (n:=n) (f:=r.fn) K F Z x9 o g h U N L l E;rw[C,v,B,w,ak5];refine this.mono ?_;rintro ar dH ⟨c,G',ρ',s',rfl,q,A,H,z,J,k,Q⟩;refine⟨c.bind x8,G',ρ',s',?_,⟨⟨_,⟨c,rfl,q,rfl⟩,A⟩,λi b R=>k i b (vP i b R)⟩,H,z,J,k,Q⟩;cases c with
 |none=>rfl
 |some j=>
  have:=q j rfl;simp;cases aI:x8 j with
  |none=>grind
  |some _=>rfl
theorem RZ{f:Nat->ah}{r:Loop}{c:Act}{d:Func}{tmps:Array Value}{R:Ending->World->Prop}:∀(a:List Nat) {w:World},b2 gl w G ρ lam tmps st->Still w0 G0 ρ0 c f r w G ρ->Marks (w0.heap.size+2) w G (a.map mark)->
  (∀w,b2 gl w G ρ lam tmps st->Still w0 G0 ρ0 c f r w G ρ->∃v,(results d tmps).run P w=.ok v w/\R (.returned v) w)->LeavesInM Fence.wide 0 P d tmps R (a.map mark) .returning w
 |[],w,p,g,_,h=>h w p g
 |D::a,w,p,g,hm,h=>by
  obtain⟨B,q,b,k,m⟩:=hm.tail;refine⟨az7,.inl ⟨D,w.putObj D (.deferred none),rfl,run_takeDeferred b,?_⟩⟩;refine RZ a (p.putObj b rfl k) ?_ ?_ h
  .exact⟨λt=>(g.aR t).keep (sU b rfl) λ_ _ h=>h,⟨g.mr.good.putObj b rfl az6,g.mr.pre⟩,(aEP az6).trans g.k8,g.x7,(aEP az6).trans g.rH,g.Au⟩
  obtain⟨o,l,j,aX⟩:=m;refine⟨o,l,j,λE n=> ?_⟩;obtain⟨y,z,A⟩:=aX E n;have u:E≠D:=by
   intro e;have i:mark E∈a.map mark:=az9;obtain⟨x,s,C⟩:=aCY.1 i;simp_all[mark]
  grind[World.putObj_heap_other]
theorem R0(vT:xU P gl){an:ey}{m:fh}{f:Operand}{ps:List Nat}{x y:Code}{l1 l2 eO wh:List (List Nat×List Nat)}{Y Z:eL}{K:aD->ag->Prop}
  (bn:dv P an nt m x l1=some (Y,l2)) (k:dv P an nt m y eO=some (Z,wh)) (rI:kY Y=true) (x9:kY Z=true)
  (gM:∀p,p∈ps->p<a.tmps.size) (p:b6 n0 gl nt w G ρ lam a st) (aq:n0<=w.heap.size) {g:Nat} {cs:List Value} {H:List ah} (bh:a.eval f=.func (.func g) #[] ⟨cs⟩) (gX:cu w G ρ cs H)
  (R:pQ (bA P gl) gl (run (bA P gl) gl Y) (run (bA P gl) gl Z) ps g H st K):(Code.rangeFunc f ⟨ps⟩ x y).wp P (kH n0 gl nt w G ρ K) a w:=by
 obtain⟨cQ,⟨u,aN,xy,tV,z⟩,Ge,R⟩:=R;have Fx:gq P g:=by
  unfold vG at z;simp[aDt,aCL]at z;obtain⟨c,k,_⟩:=z;exact⟨u,xy,az8,tV⟩
 refine(aEQ (n:=1)).1 (wpIn_rangeFunc λfn _=> ?_);obtain⟨r,kC⟩:∃r:Loop,r={state:=.ready,pending:=none,fn,tmps:=a.tmps,params:=⟨ps⟩,assign:=x,body:=y,defers:=w.heap.size}:=⟨_,rfl⟩;obtain⟨d,M⟩:∃d,d=(w.alloc (.deferred (some []))).alloc (.loop r):=⟨_,rfl⟩;have R1:∀b L n,G b=some (L,n)->b<(w.alloc (.deferred (some []))).heap.size:=λb L n h=>by rw[World.size_alloc];have:=p.rel.lt b L n h;omega
 have k2:de w G d G:=by rw[M];exact(KT (w:=w) (G:=G) (.deferred (some []))).trans (KT (w:=w.alloc (.deferred (some []))) (G:=G) (.loop r))
 have g1:Good w G d G:=by rw[M];exact(RT (w:=w) (.deferred (some [])) p.rel.lt).trans (RT (w:=w.alloc (.deferred (some []))) (.loop r) R1)
 have s1:∀L,e5 L L w G d G:=λL b n k=>by
  rw[M];exact⟨(RS (w:=w.alloc (.deferred (some []))) (.loop r) R1 L b n k).1.trans (RS (w:=w) (.deferred (some [])) p.rel.lt L b n k).1,k⟩
 have aP:d.heap.size=w.heap.size+2:=az8;have R3:∀b,w.heap.size<=b->G b=none:=by
  intro b k;cases aF:G b with
  |none=>rfl
  |some q=>exact absurd (p.rel.lt b q.1 q.2 aF) (aDT.2 k)
 have B:Still w G ρ a st.lP.aR r d G ρ:=by
  refine⟨λt=>(RR (p.rel.aR t)).keep k2 λ_ _ h=>h,⟨g1,λ_ _ h=>h⟩,?_,R3 _ az6,?_,R3 _ (aCw _)⟩;all_goals grind[World.alloc_heap_new,RowKit.Below.heap_alloc]
 have Fw:∀b L n,G b=some (L,n)->b<d.heap.size:=λb L n h=>az9;refine⟨w.heap.size+1,[mark w.heap.size],d,{target:=.fn (.func g) ⟨cs⟩,args:= #[.func (.yield (w.heap.size+1)) #[] #[]]},d,g,⟨.func (.yield (w.heap.size+1)) #[] #[]::cs⟩,d,?_,?_,λ_ _=>trivial,?_,λh=>az7,?_⟩
 .rw[M,kC];exact run_enterLoop_outer _ _ _ _ _
 .simp[resolve,bh];simp[go_sem]
 .grind[invoke,Qj]
 ·
  unfold vG at z;simp only[aDt,aCL]at z;obtain⟨c,eh,⟨vc,bC⟩,yb,rs,W,Gf⟩:=z;simp at Gf;subst Gf;simp at Ge;subst Ge;refine callsIn_of_wp_marks (n:=0) xy eh trivial ?_;have ar:gK d G (ρ++[w.heap.size+1+1]) (st.s++[.dead]):=by
   have U:=p.rel.ob.b0 (w':=d) (G':=G) k2 (λi=>s1 _) (λi j=>s1 _);refine⟨by simp[U.1],λi b o k A=> ?_⟩;rcases aDo i st.s.length with hi|hi
   .rw[aDj hi]at A;rw[aDj (by rw[U.1];omega)]at k;exact(U.2 i b o k A).b0 (de.refl _ _) (λi b h=>iP i _ h) (λ_ _ h=>⟨rfl,h⟩) (λ_ _ _ h=>⟨rfl,h⟩)
   .rw[aDp hi]at A;have:i-st.s.length=0:=az9;rw[this]at A;simp at A;subst A;trivial
  have aM:cu d G (ρ++[w.heap.size+1+1]) (.func (.yield (w.heap.size+1)) #[] #[]::cs) (.f' st.s.length::H):=by
   refine .cons _ _ _ _ (.f' _ _ ?_) (gX.keep k2 (λi b h=>iP i _ h));rw[<-p.rel.ob.1];simp
  have ao:b6 (w.heap.size+2) gl u.ntmps d G (ρ++[w.heap.size+1+1]) (λ_=>none)
    {tmps:=(⟨.func (.yield (w.heap.size+1)) #[] #[]::cs⟩:Array Value)++Array.replicate (u.ntmps-(⟨.func (.yield (w.heap.size+1)) #[] #[]::cs⟩:Array Value).size) undef,defers:=[]}
    {aR:=sg (.f' st.s.length::H) 0,bM:=λ_=>none,s:=st.s++[.dead]}:=by
   refine⟨⟨?_,λt cs h=>az9,λ_ _=>rfl,ar,p.rel.eU.b0 k2,Fw⟩,.nil,?_⟩
   .intro t;have h1:=Ke (n:=0) (t:=t) aM (aCu _);have v:(((⟨.func (.yield (w.heap.size+1)) #[] #[]::cs⟩:Array Value)++Array.replicate (u.ntmps-(⟨.func (.yield (w.heap.size+1)) #[] #[]::cs⟩:Array Value).size) undef).getD t undef)=((Value.func (.yield (w.heap.size+1)) #[] #[]::cs)[t-0]?).getD undef:=by
     rw[aDz,Array.getElem?_append,Nat.sub_zero];grind
    grind[dq.cz]
   grind
  have ai:Kept w G ρ a st.lP.aR r none d G (ρ++[w.heap.size+1+1]):=by
   refine⟨⟨r,⟨none,az8,λj aI=>az8,rfl⟩,⟨B.aR,⟨B.mr.good,iP⟩,B.k8,B.x7,B.rH,B.Au⟩⟩,λ_ _ h=>h⟩
  have s5:(ρ++[w.heap.size+1+1])[st.s.length]?=some (w.heap.size+1+1):=aAz;have aB:=ak6 (w0:=w) (G0:=G) (ρ0:=ρ) (gl:=gl) (a:=a) bn k rI x9 (r0:=r) (st0:=st.lP) rfl az9 az9 az9 (ps:=ps) az9 az9 az9 gM p.sz 0;refine aEu (ak3 (n:=0) vT aB ak4 s5 c yb ao ai R) ?_;have ad:∀{e:Exit} {C:Act} {F:World} (pp:Option aD->aD),(∀p,pp p=p.getD .normal)->rJ (w.heap.size+2) gl u.ntmps (Kept w G ρ a st.lP.aR r) (λBP p=>K (pp p) {st.lP with s:=BP.s}) C F->
    LeavesInM Fence.wide 0 P u C.tmps (rangePost Fence.wide 1 P (w.heap.size+1) (kH n0 gl nt w G ρ K) {a with defers:=[mark w.heap.size]++a.defers}) C.defers .returning F:=by
   intro e C F pp Cl h;obtain⟨bG,G',ρ',lam',aU,p',q1,cM,⟨⟨E,sy,dB⟩,gE⟩,J⟩:=h;obtain⟨hL,Kf,_,_⟩:=id q1;rw[Kf]at q1⊢;refine RZ hL cM dB q1 λya t3 t4=> ?_;refine⟨.tuple #[],?_,?_⟩
   .have aE:u.results.toList=[]:=by
     unfold zB at W;split at W
     .simp_all
     .simp_all
     .have:=sF W;generalize u.results.toList=l at this;cases this;rfl
    grind[FL,Sem.run_pure,Result.andThen_ok]
   .obtain⟨c,FA,z1,N⟩:=sy;have S:∀(Q:ag->Prop),Q {st.lP with s:=aU.s}->cP n0 gl nt w G ρ Q {a with defers:=[mark w.heap.size]++a.defers} (ya.putObj (w.heap.size+1) (.loop {E with state:=.exhausted,pending:=c})):=by
     intro Q ld;have v:=t4.put {E with state:=.exhausted,pending:=c};have av:=t4.RU t3.wd {E with state:=.exhausted,pending:=c};refine⟨p.sz,G',ρ',λ_=>none,_,?_,v.rel av,v.mr.good,v.mr.pre,ld⟩;obtain⟨xV,d1,d2,d3⟩:=p.eT;refine⟨w.heap.size::xV,az9,aF6.2 ⟨λhm=> ?_,d2⟩,λD V=> ?_⟩
     .grind
     .rcases aCJ.1 V with rfl|V
      .exact⟨aq,v.rH,v.Au⟩
      .obtain⟨f1,f2,f3⟩:=d3 D V;have ay:=(aC'.1 f2).1;obtain⟨i1,i2⟩:=v.mr.good.iN D ay (.inl f3);simp_all
    rw[Cl]at J;have aJ:E.state≠.busy:=az9;have yc:=run_endLoop (P:=P) t4.k8 aJ;have Gd:E.pending=c:=az9;rw[Gd]at yc;refine⟨c,_,yc,?_⟩;cases c with
    |none=>
     simp at N;subst N;exact S (K .normal) J
    |some j=>
     simp[aFk]at N;subst N;have:=z1 j rfl;cases j<;>simp[x8,Option.isSome_none,aDq,Option.isSome_some]at this
     .exact wpIn_exit (S _ J)
     .exact wpIn_ret (S _ J)
  intro e C F h;cases e with
  |normal=>exact ad (e:=.normal) (λp=>p.getD .normal) (λ_=>rfl) h
  |ret=>exact ad (e:=.ret) (λp=>p.getD .normal) (λ_=>rfl) h
  |exit i=>obtain⟨_,_,_,_,_,_,_,_,_,h⟩:=h;exact h.elim
  |_=>exact h.elim
theorem alc(v:xU P gl):Ka P gl:=by
 intro n0 nt B m f j x y l E R w G ρ lam a st K e p s c;simp only[dv]at e;split at e
 .rename_i fo kv Q N F t bn au;simp only[aFq,aCz,aC6,aCx]at e;obtain⟨⟨⟨u,z⟩,M⟩,rfl,rfl⟩:=e;obtain⟨j⟩:=j;have n:∀p,p∈j->p<a.tmps.size:=λq A=>aC2 az8 p.sz;simp[run]at c;obtain⟨L,i⟩:=dY t p.rel;split at c
  .rename_i g J he;rw[he]at i;have b:=i;generalize k:a.eval f=o at b;cases b with
   |func _ H cs _ _ r C=>
    cases r;grind[R0]
  .rename_i g he;rw[he]at i;have b:=i;generalize k:a.eval f=o at b;cases b with
   |d _ _ h=>
    cases h;exact R0 v bn au u z n p s k .nil c
  .exact c.elim
 simp_all
end
def aFd:=@Nat.lt_succ_self
abbrev Out:=Option (ah×aY)
def wj:Nat->(ag->(ag->Out)->Out)->ag->Out
 |0,_,_=>none
 |n+1,F,st=>F st λa=>wj n F a
def s6:Nat->ah->ah->Bool
 |n+1,.tuple a,.tuple b=>Nat.beq a.length b.length&&(a.zip b).all λp=>s6 n p.1 p.2
 |n+1,.agg a,.agg b=>Nat.beq a.length b.length&&(a.zip b).all λp=>s6 n p.1 p.2
 |_,a,b=>EH a b
def AE:cc->cc->Bool
 |.box a,.box b=>Nat.beq a.length b.length&&(a.zip b).all λp=>s6 depth p.1 p.2
 |.map a,.map b=>Nat.beq a.length b.length&&(a.zip b).all λp=>kU p.1.1 p.2.1&&s6 depth p.1.2 p.2.2
 |.dead,.dead=>true
 |.h' t e b,.h' d e' c=>Nat.beq t d&&Nat.beq e e'&&decide (b=c)
 |.sc a,.sc b=>decide (a=b)
 |_,_=>false
def CO(a b:ah×aY):Bool:=s6 depth a.1 b.1&&Nat.beq a.2.length b.2.length&&(a.2.zip b.2).all λp=>AE p.1 p.2
theorem CP{c:Type}{f:c->c->Bool}(d:∀a b,f a b=true->a=b):∀{l m:List c},(Nat.beq l.length m.length&&(l.zip m).all λp=>f p.1 p.2)=true->l=m
 |[],[],_=>rfl
 |[],_::_,h=>by simp at h
 |_::_,[],h=>by simp at h
 |a::l,b::m,h=>by
  simp at h;rw[d a b h.2.1,CP d (l:=l) (m:=m) az8]
theorem CQ:∀(n:Nat) (a b:ah),s6 n a b=true->a=b
 |0,a,b,h=>Kk (by simp_all[s6])
 |n+1,a,b,h=>by
  cases a<;>cases b<;>simp only[s6]at h<;>first
   |exact congrArg _ (CP (CQ n) h)
   |exact Kk h
theorem R4(a b:cc)(h:AE a b=true):a=b:=by
 unfold AE at h;split at h
 .rw[CP (CQ depth) h]
 .refine congrArg _ (CP (f:=λp q=>kU p.1 q.1&&s6 depth p.2 q.2) (λp q c=> ?_) h);simp at c;exact Prod.ext (FQ c.1) (CQ _ _ _ c.2)
 all_goals simp_all
theorem alg{a b:ah×aY}(h:CO a b=true):a=b:=by
 unfold CO at h;rw[Bool.and_assoc,aCx]at h;exact Prod.ext (CQ _ _ _ h.1) (CP R4 h.2)
def gi(tab:Nat->Option aW)(call:Nat->List ah->aY->Out)(d:Nat):mT Out where
 fail:=none
 guard b p:=cond b p none
 call f args s K:=match call f args s with
  |some (r,e)=>K r e
  |none=>none
 fix F st:=wj d F st
 both p q:=match p,q with
  |some a,some b=>cond (CO a b) (some a) none
  |_,_=>none
 iter g k:=match tab g with
  |some c=>k c
  |none=>none
def exec(tab:Nat->Option aW)(gl:Nat->List D)(a:Nat):Nat->Nat->List ah->aY->Out
 |0,_,_,_=>none
 |n+1,f,args,s=>match tab f with
  |some b=>mf (gi tab (exec tab gl a n) a) gl b args s λr c=>some (r,c)
  |none=>none
section
variable {P:Program}{gl:Nat->List D}{tab:Nat->Option aW}{call:Nat->List ah->aY->Out}{fuel:Nat}{x:ah×aY}
theorem a6.hB{f:Nat}{a:aW}{args:List ah}{s s':aY}{r:ah}(h:a6 P f a)(d:mf (bA P gl) gl a args s λb c=>b=r/\c=s'):bD P gl f args s r s':=by
 obtain⟨j,g,k,e,i⟩:=h;grind[aiT,akO,alc]
theorem a6.of{f:Nat}{d:aW}(an:ey)(e:(P.funcs[f]?).map (λa=>a.name== "runtime.NumGoroutine")=some false)(b:(P.funcs[f]?).bind (vG P an)=some d):a6 P f d:=by
 cases c:P.funcs[f]? with
 |none=>simp_all
 |some a=>
  rw[c]at e b;exact⟨a,an,c,az8,b⟩
theorem jJ(b:Bool)(p:Out):(gi tab call fuel).guard b p=some x↔b=true/\p=some x:=by
 grind[gi]
theorem alh{p q:Out}(h:(gi tab call fuel).both p q=some x):p=some x/\q=some x:=by
 simp[gi]at h;split at h
 .rename_i a b;cases au:CO a b with
  |true=>
   rw[au]at h;grind[alg]
  |false=>simp_all
 simp_all
theorem il:((gi tab call fuel).fail=some x)=False:=by simp[gi]
def hP(P:Program)(gl:Nat->List D)(c:Nat->List ah->aY->Out):Prop:=∀f a s r b,c f a s=some (r,b)->bD P gl f a s r b
theorem ali(k:hP P gl call){f:Nat}{args:List ah}{s:aY}{K:ah->aY->Out}{K':ah->aY->Prop}(i:∀r s,K r s=some x->K' r s)(h:lp (gi tab call fuel) f args s K=some x):
  lp (bA P gl) f args s K':=by
 unfold lp at h⊢;rw[jJ]at h;obtain⟨l,g⟩:=h;refine⟨l,?_⟩;have:∀{d:List ah} {e:aY} {c:ah->aY->Out},(gi tab call fuel).call f d e c=some x->∃r a,call f d e=some (r,a)/\c r a=some x:=by
  grind[gi]
 obtain⟨r,a,j,b⟩:=this g;rw[jJ]at b;exact⟨r,a,k _ _ _ _ _ j,b.1,i _ _ b.2⟩
theorem K1{nw rw:Bool}{d s:Nat}{y:O}{sz c:Nat}{st:ag}{K:ag->Out}{K':ag->Prop}(b:∀st,K st=some x->K' st)(h:hT (gi tab call fuel) gl nw rw d s y sz c st K=some x):hT (bA P gl) gl nw rw d s y sz c st K':=by
 unfold hT at h⊢;split at h
 .rename_i f l e;cases au:(nw&&l.isEmpty)with
  |true=>
   rw[au]at h;split at h
   .simp_all
   .cases rw with
    |true=>
     simp at h⊢;split at h
     .rw[jJ]at h;exact⟨h.1,b _ h.2⟩
     grind[il]
    |false=>
     simp at h⊢;rw[jJ]at h;exact⟨h.1,b _ h.2⟩
   grind[il]
  |false=>
   rw[au]at h;simp at h⊢;split at h
   .rw[jJ]at h;exact⟨h.1,b _ h.2⟩
   grind[il]
 .split at h
  .split at h
   .rw[jJ]at h;exact⟨h.1,b _ h.2⟩
   grind[il]
  grind[il]
 .rename_i i off len cap f e;split at h
  .rename_i cs us k j g;rw[jJ]at h;refine⟨h.1,?_⟩;have a:=h.2;cases au:Nat.ble (len+k) cap with
   |true=>rw[au]at a;simp at a⊢;rw[jJ]at a;exact⟨a.1,b _ a.2⟩
   |false=>rw[au]at a;simp at a⊢;rw[jJ]at a;exact⟨a.1,b _ a.2⟩
  grind[il]
 .split at h
  .rw[jJ]at h;exact⟨h.1,b _ h.2⟩
  grind[il]
 grind[il]
theorem CR(o:hP P gl call){i:I}{st:ag}{K:ag->Out}{K':ag->Prop}(e:∀st,K st=some x->K' st)(h:step (gi tab call fuel) gl i st K=some x):step (bA P gl) gl i st K':=by
 cases i;case n6 d f xs=>
  simp[step]at h⊢;grind[ali,il]
 case dU d c a b=>
  simp[step]at h⊢;grind[il]
 case mS d neg m y=>
  match m with
  |0=>
   simp[step]at h⊢;split at h
   .simp_all
   .have j:=alh h;exact⟨e _ j.1,e _ j.2⟩
   grind[il]
  |1|2|3|4=>
   simp[step]at h⊢;grind[il]
  |n+5=>simp_all[step,il]
 case ap d s y sz g=>exact K1 e h
 case nF d s y sz g=>exact K1 e h
 case nG d s y sz g=>exact K1 e h
 all_goals (simp only[step]at h)
 all_goals (try simp only[step])
 all_goals (repeat' split at h)
 all_goals first
  |(rw[il]at h;simp_all)
  |exact e _ h
  |(simp;exact e _ h)
  |(rw[jJ]at h;exact⟨h.1,e _ h.2⟩)
  |(rw[jJ]at h;have l:=h.1;have k:=e _ h.2;simp;done)
  |(simp[jJ]at h;have l:=h.1;have k:=h.2.1;simp_all[iE])
  |simp_all[jJ,il]
theorem CS(c:hP P gl call):∀{l:List cm} {st:ag} {K:ag->Out} {K':ag->Prop},(∀st,K st=some x->K' st)->steps (gi tab call fuel) gl l st K=some x->steps (bA P gl) gl l st K'
 |[],st,K,K',a,h=>a _ h
 |⟨none,i⟩::l,st,K,K',a,h=>CR c (λst h=>CS c a h) h
 |⟨some (s,want),i⟩::l,st,K,K',a,h=>by
  simp only[steps]at h⊢;split at h
  .rename_i b e;cases au:cond want b (!b)with
   |true=>rw[au]at h;simp at h⊢;exact CR c (λst h=>CS c a h) h
   |false=>rw[au]at h;exact CS c a h
  .rename_i e;exact CS c a h
  .rw[il]at h;exact h.elim
theorem alj(c:hP P gl call){g:cm}{st:ag}{K:ag->Out}{K':ag->Prop}(a:∀st,K st=some x->K' st)(h:step1 (gi tab call fuel) gl g st K=some x):step1 (bA P gl) gl g st K':=by
 unfold step1 at h⊢;split at h
 .grind[CR]
 .split at h
  .rename_i b e;cases au:cond _ b (!b)with
   |true=>grind[CR]
   |false=>simp_all
  all_goals grind[il]
theorem alk(c:hP P gl call){a:Nat}{g:cm}{st:ag}{K:ag->Out}{K':ag->Prop}(b:∀st,K st=some x->K' st)(h:kV (gi tab call fuel) gl a g st K=some x):kV (bA P gl) gl a g st K':=by
 unfold kV at h⊢;cases bn:ic g.i with
 |true=>
  rw[bn]at h;simp at h⊢;split at h
  .rw[jJ]at h;exact⟨h.1,b _ h.2⟩
  grind[il]
 |false=>
  grind[alj]
theorem R6(d:hP P gl call):∀{l:List cm} {b:List (List Nat)} {acc:List (cm×ju)} {c:Nat} {st:ag} {K:ag->Out} {K':ag->Prop},(∀st,K st=some x->K' st)->q2 (gi tab call fuel) gl l b acc c st K=some x->q2 (bA P gl) gl l b acc c st K'
 |[],_,_,_,_,_,_,a,h=>a _ h
 |g::l,b,acc,c,st,K,K',a,h=>by
  refine alk d (λe h=> ?_) h;rw[jJ]at h;exact⟨h.1,R6 d a h.2⟩
theorem R7(c:hP P gl call){l:List cm}{a:List (List Nat)}{st:ag}{K:ag->Out}{K':ag->Prop}(b:∀st,K st=some x->K' st)(h:q3 (gi tab call fuel) gl l a st K=some x):q3 (bA P gl) gl l a st K':=R6 c b h
theorem Gg{n:Nat}{ts a:List Nat}{st:ag}{K:ag->Out}{K':ag->Prop}(b:∀st,K st=some x->K' st)(h:forget (gi tab call fuel) n ts a st K=some x):forget (bA P gl) n ts a st K':=by
 unfold forget at h⊢;rw[jJ]at h;exact⟨h.1,b _ h.2⟩
def wk(P:Program)(tab:Nat->Option aW):Prop:=∀f a,tab f=some a->a6 P f a
theorem R8(o:hP P gl call){Y:jb Out}{b:jb Prop}(n:∀vs s e g,(∀p s,e p s=some x->g p s)->Y vs s e=some x->b vs s g){yi:Nat}{i:I}{st:ag}{pp:Option aD}{K:ag->Option aD->Out}{K':ag->Option aD->Prop}
  (l:∀st p,K st p=some x->K' st p) (h:mV (gi tab call fuel) gl Y yi i st pp K=some x):mV (bA P gl) gl b yi i st pp K':=by
 rcases KV (gl:=gl) (yi:=yi) (A:=gi tab call fuel) (Y:=Y) (i:=i) (st:=st) (pp:=pp) (K:=K)with⟨j,d,f,args,rfl,c,he⟩|he
 .rw[he,jJ]at h;simp[mV,BO,c];refine⟨h.1,?_⟩;have a:=h.2;unfold BN at a⊢;rw[jJ]at a;exact⟨a.1,n _ _ _ _ (λp s m=>l _ _ m) a.2⟩
 .rcases KV (gl:=gl) (yi:=yi) (A:=bA P gl) (Y:=b) (i:=i) (st:=st) (pp:=pp) (K:=K')with⟨j,d,f,args,rfl,c,k⟩|k
  .simp_all[step,il]
  grind[CR]
theorem CT(c:hP P gl call){Y:jb Out}{g:jb Prop}(d:∀vs s f j,(∀p s,f p s=some x->j p s)->Y vs s f=some x->g vs s j){yi:Nat}:
  ∀{l:List cm} {st:ag} {pp:Option aD} {K:ag->Option aD->Out} {K':ag->Option aD->Prop},(∀st p,K st p=some x->K' st p)->ie (gi tab call fuel) gl Y yi l st pp K=some x->ie (bA P gl) gl g yi l st pp K'
 |[],st,pp,K,K',a,h=>a _ _ h
 |⟨none,i⟩::l,st,pp,K,K',a,h=>R8 c d (λst p h=>CT c d a h) h
 |⟨some (s,want),i⟩::l,st,pp,K,K',a,h=>by
  simp only[ie]at h⊢;split at h
  .rename_i b e;cases au:cond want b (!b)with
   |true=>rw[au]at h;exact R8 c d (λst p h=>CT c d a h) h
   |false=>rw[au]at h;exact CT c d a h
  .rename_i e;exact CT c d a h
  .rw[il]at h;exact h.elim
theorem alm(g:hP P gl call){Y:jb Out}{m:jb Prop}(r:∀vs s j o,(∀p s,j p s=some x->o p s)->Y vs s j=some x->m vs s o){yi:Nat}:
  ∀{c:eL} {st:ag} {pp:Option aD} {K:aD->ag->Option aD->Out} {K':aD->ag->Option aD->Prop},(∀e st p,K e st p=some x->K' e st p)->hx (gi tab call fuel) gl Y yi c st pp K=some x->hx (bA P gl) gl m yi c st pp K':=by
 intro c;induction c with
 |skip=>intro st pp K K' d h;exact d _ _ _ h
 |ops l=>intro st pp K K' d h;exact CT g r (λst p h=>d _ _ _ h) h
 |any l v=>intro st pp K K' d h;exact R7 g (λst h=>d _ _ _ h) h
 |bad=>grind[hx,il]
 |seq a b k t=>
  intro st pp K K' d h;refine k (λe st p h=> ?_) h;grind
 |cond c a b k t=>
  grind[hx,il]
 |block i b ih=>
  intro st pp K K' d h;refine ih (λe st p h=> ?_) h;grind
 |loop ts bs b ih=>
  intro st pp K K' d h;simp[hx]at h⊢;rw[jJ]at h;refine⟨h.1,Gg (λz h=> ?_) h.2⟩;refine⟨λn st=>wj n (λf u=>hx (gi tab call fuel) gl Y yi b f none λx st p=>match x with
   |.normal=>(gi tab call fuel).guard p.isNone (forget (gi tab call fuel) f.s.length ts bs st u)
   |x=>K x st p) st=some x,fuel,h,?_⟩
  intro n f q;cases n with
  |zero=>grind[wj]
  |succ n=>
   refine ih (λe st p h=> ?_) q;cases e with
   |normal=>rw[jJ]at h;exact⟨h.1,Gg (λst h=>⟨n,aFd n,h⟩) h.2⟩
   |exit i=>simp_all
   |ret=>simp_all
 |iy y w a b _ _=>grind[hx,il]
 |exit i=>intro st pp K K' d h;exact d _ _ _ h
 |ret=>intro st pp K K' d h;exact d _ _ _ h
theorem aln(l:hP P gl call)(k:wk P tab){c b:ag->(aD->ag->Out)->Out}{d f:ag->(aD->ag->Prop)->Prop}(m:∀st K K',(∀e st,K e st=some x->K' e st)->c st K=some x->d st K')
  (r:∀st K K',(∀e st,K e st=some x->K' e st)->b st K=some x->f st K') {ps:List Nat} {g:Nat} {i:List ah} {st:ag} {K:aD->ag->Out} {K':aD->ag->Prop} (q:∀e st,K e st=some x->K' e st)
  (h:pQ (gi tab call fuel) gl c b ps g i st K=some x):pQ (bA P gl) gl d f ps g i st K':=by
 unfold pQ at h⊢;simp[gi]at h;split at h
 .rename_i n j;change (gi tab call fuel).guard _ (hx (gi tab call fuel) gl (sh (gi tab call fuel) c b ps st.lP) _ _ _ _ _)=some x at h;rw[jJ]at h;refine⟨n,k _ _ j,h.1,alm l (λv s t u w a=> ?_) (λe st p o=> ?_) h.2⟩
  .unfold sh at a⊢;rw[jJ]at a;refine⟨a.1,m _ _ _ (λe st o=> ?_) a.2⟩;grind[il]
  grind
 simp_all
theorem alo(j:hP P gl call)(p:wk P tab):∀{c:eL} {st:ag} {K:aD->ag->Out} {K':aD->ag->Prop},(∀e st,K e st=some x->K' e st)->run (gi tab call fuel) gl c st K=some x->run (bA P gl) gl c st K':=by
 intro c;induction c with
 |skip=>intro st K K' d h;exact d _ _ h
 |ops l=>intro st K K' d h;exact CS j (λst h=>d _ _ h) h
 |any l q=>intro st K K' d h;exact R7 j (λst h=>d _ _ h) h
 |bad=>grind[run,il]
 |seq a b g k=>
  intro st K K' d h;refine g (λe st h=> ?_) h;grind
 |cond c a b g k=>
  grind[run,il]
 |block i b ih=>
  intro st K K' d h;refine ih (λe st h=> ?_) h;grind
 |loop ts bs b ih=>
  intro st K K' d h;refine Gg (λs h=> ?_) h;refine⟨λn st=>wj n (λf o=>run (gi tab call fuel) gl b f λx st=>match x with
   |.normal=>forget (gi tab call fuel) f.s.length ts bs st o
   |x=>K x st) st=some x,fuel,h,?_⟩
  intro n f m;cases n with
  |zero=>grind[wj]
  |succ n=>
   refine ih (λe st h=> ?_) m;cases e with
   |normal=>exact Gg (λst h=>⟨n,aFd n,h⟩) h
   |exit i=>simp_all
   |ret=>simp_all
 |iy y r a b g k=>
  grind[run,aln,il]
 |exit i=>intro st K K' d h;exact d _ _ h
 |ret=>intro st K K' d h;exact d _ _ h
theorem Sc(g:hP P gl call)(d:wk P tab){b:aW}{args:List ah}{s:aY}{K:ah->aY->Out}{K':ah->aY->Prop}(f:∀r s,K r s=some x->K' r s)(h:mf (gi tab call fuel) gl b args s K=some x):
  mf (bA P gl) gl b args s K':=by
 refine alo g d (λe a h=> ?_) h;have i:∀{a:ag},(match q4 a b.res with
   |some r=>(gi tab call fuel).guard (eo depth r) (K r (gc s.length r a.s))
   |none=>(gi tab call fuel).fail)=some x->(match q4 a b.res with
   |some r=>(bA P gl).guard (eo depth r) (K' r (gc s.length r a.s))
   |none=>(bA P gl).fail):=by
  intro a h;cases c:q4 a b.res with
  |some r=>rw[c]at h;rw[jJ]at h;exact⟨h.1,f _ _ h.2⟩
  |none=>grind[il]
 grind[il]
theorem axR(a:wk P tab):∀n,hP P gl (exec tab gl fuel n):=by
 intro n;induction n with
 |zero=>intro f b s r d h;grind[exec]
 |succ n ih=>
  intro f b s r d h;simp[exec]at h;split at h
  .rename_i c hv;refine(a f c hv).hB (Sc ih a (λr0 g e=> ?_) h);simp_all
  simp_all
def CU(ext:Nat->List ah->aY->Out)(tab:Nat->Option aW)(gl:Nat->List D)(a:Nat):Nat->Nat->List ah->aY->Out
 |0,_,_,_=>none
 |n+1,f,args,s=>match ext f args s with
  |some r=>some r
  |none=>match tab f with
   |some b=>mf (gi tab (CU ext tab gl a n) a) gl b args s λr c=>some (r,c)
   |none=>none
theorem alp{ext:Nat->List ah->aY->Out}(e:hP P gl ext)(a:wk P tab):∀n,hP P gl (CU ext tab gl fuel n):=by
 intro n;induction n with
 |zero=>intro f c s r g h;grind[CU]
 |succ n ih=>
  intro f c s r g h;simp[CU]at h;split at h
  .rename_i q b;rw[h]at b;exact e _ _ _ _ _ b
  .split at h
   .rename_i d hv;refine(a f d hv).hB (Sc ih a (λr0 j i=> ?_) h);simp_all
   simp_all
end
def fR(P:Program)(gl:Nat->List D):mT Prop where
 fail:=False
 guard b p:=b=true/\p
 call f args s K:=∃r c,bD P gl f args s r c/\K r c
 fix F st:=∃(I:Nat->ag->Prop) (n:Nat),I n st/\∀n st,I n st->F st λd=>∃m,m<n/\I m d
 both _ _:=False
 iter g k:=∃a,a6 P g a/\k a
def hQ(P:Program)(gl:Nat->List D)(bt:Prop->Prop->Prop):mT Prop where
 fail:=False
 guard b p:=b=true/\p
 call f args s K:=∃r c,bD P gl f args s r c/\K r c
 fix F st:=∃(I:Nat->ag->Prop) (n:Nat),I n st/\∀n st,I n st->F st λd=>∃m,m<n/\I m d
 both:=bt
 iter g k:=∃a,a6 P g a/\k a
section
variable {P:Program}{gl:Nat->List D}{bt:Prop->Prop->Prop}
theorem axS(b:Bool)(p:Prop):(hQ P gl bt).guard b p=(b=true/\p):=rfl
theorem axT:(fR P gl).fail=False:=rfl
theorem axU(b:Bool)(p:Prop):(fR P gl).guard b p=(b=true/\p):=rfl
theorem axV(p q:Prop):(fR P gl).both p q=False:=rfl
theorem Sd{f:Nat}{args:List ah}{s:aY}{K:ah->aY->Prop}(h:lp (fR P gl) f args s K):
  ∃r s',K r s'/\∀K':ah->aY->Prop,K' r s'->lp (hQ P gl bt) f args s K':=by
 obtain⟨e,r,s',b,d,a⟩:=h;exact⟨_,_,a,λK' c=>⟨e,r,s',b,d,c⟩⟩
theorem K2{nw rw:Bool}{d s:Nat}{y:O}{sz j:Nat}{st:ag}{K:ag->Prop}(h:hT (fR P gl) gl nw rw d s y sz j st K):∃g,K g/\∀K':ag->Prop,K' g->hT (hQ P gl bt) gl nw rw d s y sz j st K':=by
 unfold hT at h⊢;split at h
 .rename_i n l e;cases au:(nw&&l.isEmpty)with
  |true=>
   rw[au]at h;split at h
   .grind
   .cases rw with
    |true=>
     split at h
     .obtain⟨c,a⟩:=h;exact⟨_,a,λK' b=>⟨c,b⟩⟩
     .exact h.elim
    |false=>
     obtain⟨c,a⟩:=h;exact⟨_,a,λK' b=>⟨c,b⟩⟩
   .exact h.elim
  |false=>
   rw[au]at h;simp at h⊢;split at h
   .obtain⟨c,a⟩:=h;exact⟨_,a,λK' b=>⟨c,b⟩⟩
   .exact h.elim
 .split at h
  .split at h
   .obtain⟨c,a⟩:=h;exact⟨_,a,λK' b=>⟨c,b⟩⟩
   .exact h.elim
  .exact h.elim
 .rename_i i off len cap n e;split at h
  .rename_i cs us k q p;obtain⟨c,h⟩:=h;cases au:Nat.ble (len+k) cap with
   |true=>rw[au]at h;obtain⟨a,f⟩:=h;exact⟨_,f,λK' b=>⟨c,a,b⟩⟩
   |false=>rw[au]at h;obtain⟨a,f⟩:=h;exact⟨_,f,λK' b=>⟨c,a,b⟩⟩
  .exact h.elim
 .split at h
  .obtain⟨m,h⟩:=h;exact⟨_,h,λK' o=>⟨m,o⟩⟩
  .exact h.elim
 .exact h.elim
theorem CV{i:I}{st:ag}{K:ag->Prop}(h:step (fR P gl) gl i st K):∃m,K m/\∀K':ag->Prop,K' m->step (hQ P gl bt) gl i st K':=by
 cases i;case n6 d f xs=>
  simp[step]at h⊢;split at h
  .rename_i e;obtain⟨r,o,k,g⟩:=Sd h;exact⟨_,k,λK' j=>by first|exact g _ j|(exact g _ j)⟩
  .rename_i e;obtain⟨r,o,k,g⟩:=Sd h;exact⟨_,k,λK' j=>by first|exact g _ j|(exact g _ j)⟩
  .exact h.elim
 case dU d c a b=>
  simp[step]at h⊢;split at h
  .grind
  .exact h.elim
 case ap d s y sz n=>exact K2 h
 case nF d s y sz n=>exact K2 h
 case nG d s y sz n=>exact K2 h
 all_goals (simp only[step]at h)
 all_goals (try simp only[step])
 all_goals (repeat' split at h)
 all_goals first
  |exact h.elim
  |exact⟨_,h,λK' j=>j⟩
  |(refine⟨_,h,λK' j=> ?_⟩;simp_all)
  |(obtain⟨k,g⟩:=h;exact⟨_,g,λK' j=>⟨k,j⟩⟩)
  |(obtain⟨k,g⟩:=h;exact g.elim)
  |(obtain⟨k,g⟩:=h;refine⟨_,g,λK' j=> ?_⟩;done)
  |(obtain⟨k,g,l⟩:=h;exact⟨_,l,λK' j=>⟨k,g,j⟩⟩)
  |(obtain⟨k,g,l⟩:=h;refine⟨_,l,λK' j=> ?_⟩;done)
  |(obtain⟨k,g,l⟩:=h;exact l.elim)
theorem CW:∀{l:List cm} {st:ag} {K:ag->Prop},steps (fR P gl) gl l st K->∃k,K k/\∀K':ag->Prop,K' k->steps (hQ P gl bt) gl l st K'
 |[],st,K,h=>⟨st,h,λK' a=>a⟩
 |⟨none,i⟩::l,st,K,h=>by
  obtain⟨m,g,d⟩:=CV h;obtain⟨j,f,c⟩:=CW g;exact⟨j,f,λK' a=>d _ (c _ a)⟩
 |⟨some (s,want),i⟩::l,st,K,h=>by
  simp only[steps]at h⊢;split at h
  .rename_i b e;cases au:cond want b (!b)with
   |true=>
    rw[au]at h;simp at h⊢;obtain⟨m,g,d⟩:=CV h;obtain⟨j,f,c⟩:=CW g;exact⟨j,f,λK' a=>d _ (c _ a)⟩
   |false=>simp_all[CW]
  .simp_all[CW]
  .exact h.elim
theorem alq{g:cm}{st:ag}{K:ag->Prop}(h:step1 (fR P gl) gl g st K):∃a,K a/\∀K':ag->Prop,K' a->step1 (hQ P gl bt) gl g st K':=by
 unfold step1 at h⊢;split at h
 .exact CV h
 .split at h
  .rename_i b e;cases au:cond _ b (!b)with
   |true=>simp_all[CV]
   |false=>grind
  .grind
  .exact h.elim
theorem alr{b:Nat}{g:cm}{st:ag}{K:ag->Prop}(h:kV (fR P gl) gl b g st K):∃a,K a/\∀K':ag->Prop,K' a->kV (hQ P gl bt) gl b g st K':=by
 unfold kV at h⊢;cases bn:ic g.i with
 |true=>
  rw[bn]at h;split at h
  .obtain⟨e,c⟩:=h;exact⟨_,c,λK' d=>⟨e,d⟩⟩
  .exact h.elim
 |false=>
  simp_all[alq]
theorem Se:∀{l:List cm} {b:List (List Nat)} {acc:List (cm×ju)} {c:Nat} {st:ag} {K:ag->Prop},q2 (fR P gl) gl l b acc c st K->∃d,K d/\∀K':ag->Prop,K' d->q2 (hQ P gl bt) gl l b acc c st K'
 |[],_,_,_,st,_,h=>⟨st,h,λK' a=>a⟩
 |g::l,b,acc,c,st,K,h=>by
  obtain⟨n,⟨k,f⟩,i⟩:=alr h;obtain⟨m,e,j⟩:=Se f;exact⟨m,e,λK' a=>i _ ⟨k,j _ a⟩⟩
theorem Sf{l:List cm}{b:List (List Nat)}{st:ag}{K:ag->Prop}(h:q3 (fR P gl) gl l b st K):∃a,K a/\∀K':ag->Prop,K' a->q3 (hQ P gl bt) gl l b st K':=Se h
def Gh(F:(ag->Prop)->(aD->ag->Prop)->ag->Prop)(e:aD)(a:ag):Nat->ag->Prop
 |0,_=>False
 |k+1,st=>∀(K:aD->ag->Prop) (R:ag->Prop),K e a->(∀b,Gh F e a k b->R b)->F R K st
def Gi(Y e:jb Prop):Prop:=∀d s a,Y d s a->∃p c,a p c/\∀b,b p c->e d s b
theorem Sg{Y g:jb Prop}(m:Gi Y g){yi:Nat}{i:I}{st:ag}{p:Option aD}{K:ag->Option aD->Prop}(h:mV (fR P gl) gl Y yi i st p K):
  ∃a f,K a f/\∀K':ag->Option aD->Prop,K' a f->mV (hQ P gl bt) gl g yi i st p K':=by
 unfold mV at h⊢;split at h
 .rename_i e;obtain⟨d,b,k⟩:=h;obtain⟨f,o,j,l⟩:=m _ _ _ k;exact⟨_,_,j,λK' c=>⟨d,b,l _ c⟩⟩
 .rename_i n;obtain⟨a,d,b⟩:=CV h;exact⟨a,p,d,λK' c=>b _ c⟩
theorem CX{Y o:jb Prop}(a:Gi Y o){yi:Nat}:∀{l:List cm} {st:ag} {p:Option aD} {K:ag->Option aD->Prop},ie (fR P gl) gl Y yi l st p K->
  ∃n q,K n q/\∀K':ag->Option aD->Prop,K' n q->ie (hQ P gl bt) gl o yi l st p K'
 |[],st,p,K,h=>⟨st,p,h,λK' c=>c⟩
 |⟨none,i⟩::l,st,p,K,h=>by
  obtain⟨r,t,k,f⟩:=Sg a h;obtain⟨m,j,g,d⟩:=CX a k;exact⟨m,j,g,λK' c=>f _ (d _ c)⟩
 |⟨some (s,want),i⟩::l,st,p,K,h=>by
  simp only[ie]at h⊢;split at h
  .rename_i b e;cases au:cond want b (!b)with
   |true=>
    rw[au]at h;obtain⟨r,t,k,f⟩:=Sg a h;obtain⟨m,j,g,d⟩:=CX a k;exact⟨m,j,g,λK' c=>f _ (d _ c)⟩
   |false=>rw[au]at h;exact CX a h
  .rename_i e;exact CX a h
  .exact h.elim
def Gj(F:(ag->Prop)->(aD->ag->Option aD->Prop)->ag->Prop)(e:aD)(a:ag)(c:Option aD):Nat->ag->Prop
 |0,_=>False
 |k+1,st=>∀(K:aD->ag->Option aD->Prop) (R:ag->Prop),K e a c->(∀b,Gj F e a c k b->R b)->F R K st
theorem als{Y z:jb Prop}(U:Gi Y z){yi:Nat}:∀{c:eL} {st:ag} {p:Option aD} {K:aD->ag->Option aD->Prop},hx (fR P gl) gl Y yi c st p K->
  ∃e r A,K e r A/\∀K':aD->ag->Option aD->Prop,K' e r A->hx (hQ P gl bt) gl z yi c st p K':=by
 intro c;induction c with
 |skip=>intro st p K h;exact⟨_,_,_,h,λK' d=>d⟩
 |ops l=>intro st p K h;obtain⟨r,A,f,g⟩:=CX U h;exact⟨_,_,_,f,λK' d=>g _ d⟩
 |any l dF=>intro st p K h;obtain⟨r,f,g⟩:=Sf h;exact⟨_,_,_,f,λK' d=>g _ d⟩
 |bad=>intro st p K h;exact h.elim
 |seq a b E C=>
  intro st p K h;obtain⟨e,o,q,f,g⟩:=E h;cases e with
  |normal=>
   obtain⟨H,v,u,t,s⟩:=C f;exact⟨H,v,u,t,λK' d=>g _ (s _ d)⟩
  |exit i=>exact⟨_,_,_,f,λK' d=>g _ d⟩
  |ret=>exact⟨_,_,_,f,λK' d=>g _ d⟩
 |cond c a b E C=>
  intro st p K h;simp[hx]at h⊢;split at h
  .grind
  .exact h.elim
 |block i b ih=>
  intro st p K h;obtain⟨e,o,q,f,g⟩:=ih h;cases e with
  |normal=>exact⟨_,_,_,f,λK' d=>g _ d⟩
  |ret=>exact⟨_,_,_,f,λK' d=>g _ d⟩
  |exit j=>
   simp only at f;cases au:Nat.beq j i with
   |true=>rw[au]at f;exact⟨_,_,_,f,λK' d=>g _ az8⟩
   |false=>rw[au]at f;exact⟨_,_,_,f,λK' d=>g _ az8⟩
 |loop ts bs b ih=>
  intro st p K h;obtain⟨S,W,I,n,J,uD⟩:=h;obtain⟨F,M⟩:∃F:(ag->Prop)->(aD->ag->Option aD->Prop)->ag->Prop,F=λR K o=>hx (hQ P gl bt) gl z yi b o none λx st p=>match x with
   |.normal=>(hQ P gl bt).guard p.isNone (forget (hQ P gl bt) o.s.length ts bs st R)
   |x=>K x st p:=⟨_,rfl⟩
  have V:∀n st,I n st->∃e o q k,K e o q/\Gj F e o q k st:=by
   intro n;induction n using Nat.strongRecOn with
   |_ n G=>
    intro st L;obtain⟨x,v,u,f,g⟩:=ih (uD n st L);cases x with
    |normal=>
     obtain⟨Z,Q,m,N,s7⟩:=f;obtain⟨e,o,q,k,t,s⟩:=G m N _ s7;refine⟨e,o,q,k+1,t,λK' R d w=> ?_⟩;rw[M];exact g _ ⟨Z,Q,w _ s⟩
    |exit i=>
     refine⟨.exit i,v,u,1,f,λK' R d w=> ?_⟩;simp_all
    |ret=>
     refine⟨.ret,v,u,1,f,λK' R d w=> ?_⟩;simp_all
  obtain⟨e,o,q,k,t,s⟩:=V n _ J;refine⟨e,o,q,t,λK' d=>⟨S,W,Gj F e o q,k,s,λn st B=> ?_⟩⟩;cases n with
  |zero=>exact B.elim
  |succ n=>
   have:=B K' (λr=>∃m,m<n+1/\Gj F e o q m r) d (λr h=>⟨n,aFd n,h⟩);grind
 |iy y ps a b _ _=>intro st p K h;exact h.elim
 |exit i=>intro st p K h;exact⟨_,_,_,h,λK' d=>d⟩
 |ret=>intro st p K h;exact⟨_,_,_,h,λK' d=>d⟩
def CE(bt:Prop->Prop->Prop)(P:Program)(gl:Nat->List D)(c:eL):Prop:=∀(d:ag) (K:aD->ag->Prop),run (fR P gl) gl c d K->∃e b,K e b/\∀a:aD->ag->Prop,a e b->run (hQ P gl bt) gl c d a
theorem alu{a b:eL}(o:CE bt P gl a)(n:CE bt P gl b)(ps:List Nat)(st0:ag):Gi (sh (fR P gl) (run (fR P gl) gl a) (run (fR P gl) gl b) ps st0) (sh (hQ P gl bt) (run (hQ P gl bt) gl a) (run (hQ P gl bt) gl b) ps st0):=by
 intro t s q h;obtain⟨d,h⟩:=h;obtain⟨e,p,k,g⟩:=o _ _ h;cases e with
 |normal=>
  obtain⟨m,r,j,f⟩:=n _ _ k;cases m with
  |normal=>exact⟨_,_,j,λl c=>⟨d,g _ (f _ c)⟩⟩
  |exit i=>exact⟨_,_,j,λl c=>⟨d,g _ (f _ c)⟩⟩
  |ret=>exact⟨_,_,j,λl c=>⟨d,g _ (f _ c)⟩⟩
 |exit i=>exact k.elim
 |ret=>exact k.elim
theorem Si{a b:eL}(q:CE bt P gl a)(o:CE bt P gl b){ps:List Nat}{g:Nat}{m:List ah}{st:ag}{K:aD->ag->Prop}(h:pQ (fR P gl) gl (run (fR P gl) gl a) (run (fR P gl) gl b) ps g m st K):
  ∃e f,K e f/\∀K':aD->ag->Prop,K' e f->pQ (hQ P gl bt) gl (run (hQ P gl bt) gl a) (run (hQ P gl bt) gl b) ps g m st K':=by
 obtain⟨l,n,j,p⟩:=h;obtain⟨e,r,s,c,k⟩:=als (alu q o ps st.lP) p;cases e with
 |exit i=>exact c.elim
 |normal=>exact⟨_,_,c,λK' d=>⟨l,n,j,k _ d⟩⟩
 |ret=>exact⟨_,_,c,λK' d=>⟨l,n,j,k _ d⟩⟩
theorem Sj:∀{c:eL} {st:ag} {K:aD->ag->Prop},run (fR P gl) gl c st K->∃e p,K e p/\∀K':aD->ag->Prop,K' e p->run (hQ P gl bt) gl c st K':=by
 intro c;induction c with
 |skip=>intro st K h;exact⟨_,_,h,λK' d=>d⟩
 |ops l=>intro st K h;obtain⟨p,f,g⟩:=CW h;exact⟨_,_,f,λK' d=>g _ d⟩
 |any l Q=>intro st K h;obtain⟨p,f,g⟩:=Sf h;exact⟨_,_,f,λK' d=>g _ d⟩
 |bad=>intro st K h;exact h.elim
 |seq a b t s=>
  intro st K h;obtain⟨e,o,f,g⟩:=t h;cases e with
  |normal=>
   obtain⟨A,u,r,q⟩:=s f;exact⟨A,u,r,λK' d=>g _ (q _ d)⟩
  |exit i=>exact⟨_,_,f,λK' d=>g _ d⟩
  |ret=>exact⟨_,_,f,λK' d=>g _ d⟩
 |cond c a b t s=>
  intro st K h;simp[run]at h⊢;split at h
  .grind
  .exact h.elim
 |block i b ih=>
  intro st K h;obtain⟨e,o,f,g⟩:=ih h;cases e with
  |normal=>exact⟨_,_,f,λK' d=>g _ d⟩
  |ret=>exact⟨_,_,f,λK' d=>g _ d⟩
  |exit j=>
   simp only at f;cases au:Nat.beq j i with
   |true=>rw[au]at f;exact⟨_,_,f,λK' d=>g _ az8⟩
   |false=>rw[au]at f;exact⟨_,_,f,λK' d=>g _ az8⟩
 |loop ts bs b ih=>
  intro st K h;obtain⟨L,I,n,B,N⟩:=h;obtain⟨F,E⟩:∃F:(ag->Prop)->(aD->ag->Prop)->ag->Prop,F=λR K o=>run (hQ P gl bt) gl b o λx st=>match x with
   |.normal=>forget (hQ P gl bt) o.s.length ts bs st R
   |x=>K x st:=⟨_,rfl⟩
  have J:∀n st,I n st->∃e o k,K e o/\Gh F e o k st:=by
   intro n;induction n using Nat.strongRecOn with
   |_ n z=>
    intro st C;obtain⟨x,u,f,g⟩:=ih (N n st C);cases x with
    |normal=>
     obtain⟨H,m,G,M⟩:=f;obtain⟨e,o,k,r,q⟩:=z m G _ M;refine⟨e,o,k+1,r,λK' R d v=> ?_⟩;rw[E];exact g _ ⟨H,v _ q⟩
    |exit i=>
     refine⟨.exit i,u,1,f,λK' R d v=> ?_⟩;simp_all
    |ret=>
     refine⟨.ret,u,1,f,λK' R d v=> ?_⟩;simp_all
  obtain⟨e,o,k,r,q⟩:=J n _ B;refine⟨e,o,r,λK' d=>⟨L,Gh F e o,k,q,λn st w=> ?_⟩⟩;cases n with
  |zero=>exact w.elim
  |succ n=>
   have:=w K' (λp=>∃m,m<n+1/\Gh F e o m p) d (λp h=>⟨n,aFd n,h⟩);grind
 |iy y S a b t s=>
  intro st K h;simp[run]at h⊢;split at h
  .rename_i e;exact Si (λ_ _=>t) (λ_ _=>s) h
  .rename_i e;exact Si (λ_ _=>t) (λ_ _=>s) h
  .exact h.elim
 |exit i=>intro st K h;exact⟨_,_,h,λK' d=>d⟩
 |ret=>intro st K h;exact⟨_,_,h,λK' d=>d⟩
theorem alv{f:aW}{args:List ah}{s:aY}{K:ah->aY->Prop}(h:mf (fR P gl) gl f args s K):∃r s',K r s'/\∀K':ah->aY->Prop,K' r s'->mf (hQ P gl bt) gl f args s K':=by
 obtain⟨e,g,a,d⟩:=Sj h;cases e with
 |exit i=>exact a.elim
 |normal=>
  simp at a;split at a
  .rename_i r b;exact⟨_,_,a.2,λK' c=>d _ (by simp[b];exact⟨a.1,c⟩)⟩
  .exact a.elim
 |ret=>
  simp at a;split at a
  .rename_i r b;exact⟨_,_,a.2,λK' c=>d _ (by simp[b];exact⟨a.1,c⟩)⟩
  .exact a.elim
theorem a6.ext{f:Nat}{a:aW}{args:List ah}{s:aY}{Q:ah->aY->Prop}(h:a6 P f a)(b:mf (fR P gl) gl a args s Q):∃r s',Q r s'/\bD P gl f args s r s':=by
 obtain⟨r,s',d,c⟩:=alv (bt:=And) b;exact⟨r,s',d,h.hB (c _ ⟨rfl,rfl⟩)⟩
end
def aFe:=@List.drop_drop
theorem aAs(h:p:=by simp[Value.oneCell']):p:=h
inductive iI where
 |bool
 |int (k:IntKind)
 |str
 |list (aw:Bool) (ts:List iI)
 deriving Inhabited,Repr
mutual
inductive AF(N:Nat):iI->D->Prop
 |bool (b:Bool):AF N .bool (.bool b)
 |int (k:IntKind) (n:Int):k.min<=n->n<=k.max->AF N (.int k) (.int k n)
 |str (s:List UInt8):s.length<=N->AF N .str (.str s)
 |list (aw:Bool) (ts:List iI) (l:List D):l.length<=N->qh N aw ts l->AF N (.list aw ts) (.list ts.length l)
inductive qh(N:Nat):Bool->List iI->List D->Prop
 |nil (aw:Bool) (ts:List iI):qh N aw ts []
 |agg (ts:List iI) (cs:List D) (l:List D):lX N ts cs->qh N true ts l->qh N true ts (.agg cs::l)
 |one (t:iI) (x:D) (l:List D):AF N t x->qh N false [t] l->qh N false [t] (x::l)
inductive lX(N:Nat):List iI->List D->Prop
 |nil:lX N [] []
 |cons (t:iI) (x:D) (ts:List iI) (xs:List D):AF N t x->lX N ts xs->lX N (t::ts) (x::xs)
end
section
variable (P:Program)
def CY(f:Nat->Option (Bool×List iI)):List Field->Nat->Option (List iI)
 |[],_=>some []
 |x::xs,off=>match f x.type with
  |some (_,a)=>match CY f xs (off+a.length)with
   |some b=>if x.offset=off/\P.cellsOf x.type=a.length then some (a++b)else none
   |none=>none
  |none=>none
def oC:Nat->Nat->Option (Bool×List iI)
 |0,_=>none
 |n+1,t=>match P.underlying t with
  |some .bool=>some (false,[.bool])
  |some (.int k)=>some (false,[.int k])
  |some .string=>some (false,[.str])
  |some (.slice e)=>match oC n e with
   |some (aw,ts)=>if P.cellsOf e=ts.length/\0<ts.length then some (false,[.list aw ts])else none
   |none=>none
  |some (.struct fs)=>match CY P (oC n) fs.toList 0 with
   |some ts=>if P.cellsOf t=ts.length then some (true,ts)else none
   |none=>none
  |_=>none
end
structure CZ{H:Type}(B:DataW H->Nat):Prop where
 str:∀s,s.length<=B (.lit (.string s))
 slice:∀es sp,es.length<=B (.slice es sp)/\∀x,x∈es->B x<=B (.slice es sp)
 agg:∀ps x,x∈ps->B x<=B (.agg ps)
def G0:bL:=λ_=>none
section
variable {P:Program}{W:World}{N off:Nat}
theorem lX.append{ts us:List iI}{xs ys:List D}(h:lX N ts xs)(c:lX N us ys):lX N (ts++us) (xs++ys):=by
 induction ts generalizing xs with
 |nil=>cases h;grind
 |cons t ts ih=>cases h with|cons _ _ _ _ a b=>exact .cons _ _ _ _ a (ih b)
theorem lX.length{ts:List iI}{xs:List D}(h:lX N ts xs):xs.length=ts.length:=by
 induction ts generalizing xs with
 |nil=>cases h;rfl
 |cons t ts ih=>cases h with|cons _ _ _ _ a b=>simp_all
theorem alw{b off j:Nat}:W.cell? ((⟨b,off,none⟩:Addr).add j)=W.cell? ⟨b,off+j,none⟩:=by
 grind[Addr.add]
theorem alx{b off n:Nat}{vs:List Value}(h:W.cells? 0 ⟨b,off,none⟩ n=some vs)(c:∀v,v∈vs->v.oneCell'=true):vs.length=n/\jc W G0 b off vs:=by
 obtain⟨_,a,e⟩:=World.cells?_some h;refine⟨a,λj v d=>⟨?_,λL n h=>by grind[G0],c v (List.mem_of_getElem? d)⟩⟩;grind[alw]
theorem jc.app{b off:Nat}{vs us:List Value}(h:jc W G0 b off vs)(d:jc W G0 b (off+vs.length) us):jc W G0 b off (vs++us):=by
 intro j v a;rcases aDo j vs.length with c|c
 .rw[aDj c]at a;exact h j v a
 .rw[aDp c]at a;have:=d _ v a;grind
def AG(a:Bool)(xs:List D):D:=if a then .agg xs else xs.getD 0 .dJ
theorem qh.aly{a:Bool}{ts:List iI}{xs:List D}{l:List D}(d:a=false->∃t,ts=[t])(h:lX N ts xs)(b:qh N a ts l):qh N a ts (AG a xs::l)/\(AG a xs).cells=xs:=by
 cases a with
 |true=>exact⟨.agg _ _ _ h b,rfl⟩
 |false=>
  obtain⟨t,rfl⟩:=d rfl;cases h with
  |cons _ x _ xs h1 c=>
   cases c;refine⟨.one _ _ _ h1 b,?_⟩;cases h1<;>rfl
theorem alz{n t:Nat}{ts:List iI}(h:oC P n t=some (false,ts)):∃c,ts=[c]:=by
 cases n with
 |zero=>grind[oC]
 |succ n=>
  simp[oC]at h;grind
theorem Sk{H:Type}{f:Field->List Value->Option (DataW H×List MemPlace)}{B:DataW H->Nat}{cs:List Value}{g:Nat->Option (Bool×List iI)}:
  ∀{c:List Field} {off:Nat} {ts:List iI} {ys:List (DataW H×List MemPlace)},CY P g c off=some ts->(c.mapM λx=>f x ((cs.drop x.offset).take (P.cellsOf x.type)))=some ys->(∀y,y∈ys->B y.1<=N)->
  (∀x,x∈c->∀cs d ps k ts,g x.type=some (k,ts)->f x cs=some (d,ps)->B d<=N->∃xs,cw W G0 cs xs/\lX N ts xs/\∀v,v∈cs->v.oneCell'=true)->
  ∃xs,cw W G0 ((cs.drop off).take ts.length) xs/\lX N ts xs/\∀v,v∈(cs.drop off).take ts.length->v.oneCell'=true
 |[],off,ts,ys,h1,h,i,e=>by
  simp[CY,aCz]at h1;subst h1;exact⟨[],by simpa using .nil,.nil,az7⟩
 |x::c,off,ts,ys,h1,h,i,e=>by
  simp[CY]at h1;split at h1
  .rename_i k a bn;split at h1
   .rename_i b au;split at h1
    .rename_i l;simp at h1;subst h1;simp only[aE8,aDt,aCL,aFs,aCz]at h;obtain⟨y,j,s,m,rfl⟩:=h;obtain⟨d,ps⟩:=y;obtain⟨xs,o,n,aX⟩:=e x az7 _ d ps _ _ bn j (i (d,ps) az7);obtain⟨q,u,p,w⟩:=Sk (off:=off+a.length) au m (λy j=>i y az9) (λx r=>e x az9);rw[l.1,l.2]at o aX;have t:(cs.drop off).take (a++b).length=(cs.drop off).take a.length++(cs.drop (off+a.length)).take b.length:=by
      rw[aCF,List.take_add,aFe]
     refine⟨xs++q,?_,n.append p,?_⟩
     .grind[cw.append]
     grind
    simp_all
   simp_all
  simp_all
theorem Sl{Y:Type}{b sz:Nat}{a:Bool}{ts:List iI}(m:sz=ts.length)(f:a=false->∃t,ts=[t]):
  ∀{ys:List Y} {k:Nat},(∀i y,ys[i]?=some y->∃vs xs,vs.length=sz/\jc W G0 b (off+(k+i)*sz) vs/\cw W G0 vs xs/\lX N ts xs)->
  ∃(l:List D) (vs:List Value),l.length=ys.length/\(∀d,d∈l->d.cells.length=sz)/\jc W G0 b (off+k*sz) vs/\cw W G0 vs (l.flatMap D.cells)/\qh N a ts l
 |[],k,_=>⟨[],[],rfl,az7,λj v B=>az8,.nil,.nil _ _⟩
 |y::ys,k,h=>by
  obtain⟨vs,xs,u,r,aX,g⟩:=h 0 y rfl;obtain⟨l,q,w,x,z,A,n⟩:=Sl m f (ys:=ys) (k:=k+1) λi y s=>by
   obtain⟨vs,xs,c,o,p⟩:=h (i+1) y az8;exact⟨vs,xs,c,by rw[show k+1+i=k+(i+1)by omega];omega,p⟩
  obtain⟨c,o⟩:=qh.aly f g n;refine⟨AG a xs::l,vs++q,az9,?_,?_,?_,c⟩
  .intro d e;rcases aCJ.1 e with rfl|e
   all_goals grind[lX.length]
  all_goals grind[jc.app,cw.append]
theorem alA{H:Type}{enc:TypeId×Value->H}{E:Nat->Bool}{B:DataW H->Nat}(r:CZ B):∀(n l t:Nat) (cs:List Value) (d:DataW H) (ps:List MemPlace) (o:Bool) (ts:List iI),
  oC P n t=some (o,ts)->DataW.trod enc P W 0 E true l t cs=some (d,ps)->B d<=N->∃xs,cw W G0 cs xs/\lX N ts xs/\∀v,v∈cs->v.oneCell'=true:=by
 intro n;induction n with
 |zero=>grind[oC]
 |succ n ih=>
  intro l t cs d ps o ts c g p;cases l with
  |zero=>simp_all[DataW.trod]
  |succ l=>
   simp[oC]at c;split at c
   .rename_i hu;obtain⟨rfl,rfl⟩:=c;obtain⟨b,rfl,_⟩:=DataW.trod_bool hu g;exact⟨_,.cons _ _ _ _ (.bool _) .nil,.cons _ _ _ _ (.bool _) .nil,aAs⟩
   .rename_i k hu;obtain⟨rfl,rfl⟩:=c;obtain⟨ai,rfl,_,s⟩:=DataW.trod_int hu g;simp[Lit.wf,aCx,aCA]at s;exact⟨_,.cons _ _ _ _ (.int _ _) .nil,.cons _ _ _ _ (.int _ _ s.1 s.2) .nil,aAs⟩
   .rename_i hu;obtain⟨rfl,rfl⟩:=c;obtain⟨ai,rfl,m,_⟩:=DataW.trod_string hu g;simp at m;obtain⟨rfl,rfl⟩:=m;exact⟨_,.cons _ _ _ _ (.str _ _ rfl) .nil,.cons _ _ _ _ (.str _ (aDn (r.str _) p)) .nil,aAs⟩
   .rename_i e hu;split at c
    .rename_i M h m;split at c
     .rename_i x;simp[aCz,aC6]at c;obtain⟨rfl,rfl⟩:=c;have V:M=false->∃t,h=[t]:=λaq=>by grind[alz]
      rcases DataW.trod_slice hu g with⟨rfl,_⟩|⟨a,len,cap,elems,rest,n',U,rfl,z,_,q9,_,hlen,w,_,_⟩
      .exact⟨_,.cons _ _ _ _ (.kZ _ _ _) .nil,.cons _ _ _ _ (.list _ _ _ (aCu _) (.nil _ _)) .nil,aAs⟩
      .simp[aC6]at z;obtain⟨rfl,_⟩:=z;cases U;have hs:=r.slice (elems.map (·.1)) (rest.map (·.1));rcases aFp len with q|q
       .subst q;exact⟨_,.cons _ _ _ _ (.kZ _ _ h.length) .nil,.cons _ _ _ _ (.list _ _ _ (aCu _) (.nil _ _)) .nil,aAs⟩
       .obtain⟨b,off,ao⟩:=a;have Q:ao=none:=by
         have:=w 0 q;rw[aCB az6,aCL]at this;obtain⟨F,jD,_⟩:=this;obtain⟨_,J,yb⟩:=World.cells?_some jD;have c:=yb 0 az6;rw[aCB az6]at c;simp[aDV,Addr.add,if_true]at c;unfold World.cell? at c;split at c
         .simp_all
         simp_all
        subst Q;obtain⟨ad,F,A,Y,C,Z,f5⟩:=Sl (W:=W) (N:=N) (off:=off) (b:=b) (ys:=elems) (k:=0) (sz:=h.length) rfl V λi y j=>by
         have hi:i<len:=az9;have:=w i hi;rw[j,aCL]at this;obtain⟨us,u,K⟩:=this;obtain⟨d,ps⟩:=y;obtain⟨xs,L,G,aX⟩:=ih _ _ _ _ _ _ _ m K (aDn (hs.2 d (aCY.2 ⟨(d,ps),aC8 j,rfl⟩)) p);rw[x.1]at u;have R:(⟨b,off,none⟩:Addr).add (i*h.length)=⟨b,off+i*h.length,none⟩:=by
          grind[Addr.add]
         rw[R]at u;obtain⟨c1,c2⟩:=alx u aX;grind
        rw[aDV,aDc]at C;rw[hlen]at A;exact⟨_,.cons _ _ _ _ (.list b off len cap h.length ad F A.symm q9 Y C Z) .nil,
         .cons _ _ _ _ (.list _ _ _ az9 f5) .nil,aAs⟩
     simp_all
    simp_all
   .rename_i fs hu;split at c
    .rename_i h m;split at c
     .rename_i x;simp only[aCz,aC6]at c;obtain⟨rfl,rfl⟩:=c;unfold DataW.trod at g;simp only[hu]at g;split at g
      .rename_i J;simp only[aDr,aC6]at g;obtain⟨ys,j,rfl,rfl⟩:=g;obtain⟨xs,L,G,aX⟩:=Sk (B:=B) (f:=λf cs=>DataW.trod enc P W 0 E true l f.type cs) (off:=0) m j (λy j=>aDn (r.agg _ _ (List.mem_map_of_mem j)) p)
        (λar _ cs d ps o ts c g S=>ih l _ cs d ps o ts c g S)
       grind
      simp_all
     simp_all
    simp_all
   simp_all
end
theorem aAb(h:p:=by cases h):p:=h
section
variable {P:Program}{W:World}{N:Nat}
theorem alE{H:Type}{enc:TypeId×Value->H}{r:Nat->Bool}{B:DataW H->Nat}(o:CZ B){n base t:Nat}{v:Value}{d:DataW H}{ps:List MemPlace}{f:Bool}{ts:List iI}
  (a:oC P n t=some (f,ts)) (b:Value.okWide P W .any base t v) (l:DataW.Trod enc P W 0 r true t v d ps) (j:B d<=N):∃xs,Rd W G0 v (AG f xs)/\lX N ts xs:=by
 obtain⟨p,k⟩:=l;obtain⟨xs,c,i,h⟩:=alA o n p t _ _ _ _ _ a k j;refine⟨xs,?_,i⟩;cases n with
 |zero=>grind[oC]
 |succ n=>
  have g:f=false->v.cells.toList=[v]->Rd W G0 v (AG f xs):=by
   intro m q;subst m;rw[q]at c;cases c with
   |cons _ x _ xs c h=>cases h;exact c
  simp[oC]at a;unfold Value.okWide at b;split at a
  .rename_i hu;simp only[aCz,aC6]at a;refine g a.1.symm ?_;simp[Cell.okWide,hu]at b;cases v<;>simp[Cell.ok,hu]at b<;>rfl
  .rename_i hu;simp only[aCz,aC6]at a;refine g a.1.symm ?_;simp[Cell.okWide,hu]at b;cases v<;>simp[Cell.ok,hu]at b<;>rfl
  .rename_i hu;simp only[aCz,aC6]at a;refine g a.1.symm ?_;simp[Cell.okWide,hu]at b;cases v<;>simp[Cell.ok,hu]at b<;>rfl
  .rename_i e hu;split at a
   .split at a
    .simp only[aCz,aC6]at a;refine g a.1.symm ?_;simp[Cell.okWide,hu]at b;cases v<;>simp[Cell.ok,hu]at b<;>rfl
    simp_all
   simp_all
  .rename_i fs hu;split at a
   .split at a
    .simp only[aCz,aC6]at a;rw[hu]at b;simp at b;obtain⟨s,rfl,_⟩:=b;rw[<-a.1];exact .agg _ _ c
    simp_all
   simp_all
  simp_all
theorem K5{W a:World}{G':bL}(h:Good W G0 a G'):∀i,i<W.heap.size->a.heap[i]?=W.heap[i]?:=λi b=>(h.iN i b (.inl rfl)).1
theorem alF{W a:World}{G':bL}{may:MemPlace->Prop}(h:Good W G0 a G'):W.keptBut a may:=by
 refine⟨h.os,h.out,λi b=> ?_⟩;grind[K5]
def K6(W:World)(gl:Nat->List D):Prop:=∀g,∃a,jc W G0 g 0 a/\cw W G0 a (gl g)/\((gl g).length=0\/∃c E b,zC W G0 g (.cells c E b)/\c.size=(gl g).length)
theorem alG{gl:Nat->List D}(h:K6 W gl):pU gl W G0:=by
 refine⟨λg=> ?_,λg=> ?_⟩
 .obtain⟨a,c,b,_⟩:=h g;have:=Rd.e2 g 0 0 a _ c b;omega
 .obtain⟨a,_,_,d⟩:=h g;omega
inductive uQ(N:Nat):List (Bool×List iI)->List ah->Prop
 |nil:uQ N [] []
 |cons (aw:Bool) (ts:List iI) (xs:List D) (lY:List (Bool×List iI)) (ff:List ah):lX N ts xs->uQ N lY ff->uQ N ((aw,ts)::lY) (.d (AG aw xs)::ff)
theorem Sm{H:Type}{enc:TypeId×Value->H}{u:Nat->Bool}{B:DataW H->Nat}(h:CZ B){n base:Nat}:∀{ts:List Nat} {vs:List Value} {a:List (DataW H)} {ps:List MemPlace} {lY:List (Bool×List iI)},
  ts.mapM (oC P n)=some lY->(∀(j:Nat) t v,ts[j]?=some t->vs[j]?=some v->Value.okWide P W .any base t v)->DataW.TrodAll enc P W 0 u true ts vs a ps->(∀d,d∈a->B d<=N)->
  ∃f,uQ N lY f/\cu W G0 [] vs f/\a.length=ts.length
 |[],vs,a,ps,lY,h1,e,b,c=>by
  simp at h1;subst h1;cases vs with
  |nil=>cases a with
   |nil=>exact⟨[],.nil,.nil,rfl⟩
   |cons _ _=>exact b.elim
  |cons _ _=>exact b.elim
 |t::ts,vs,a,ps,lY,h1,e,b,c=>by
  simp only[aE8,aDt,aCL,aFs,aCz]at h1;obtain⟨⟨w,x⟩,l,y,g,rfl⟩:=h1;cases vs with
  |nil=>exact b.elim
  |cons v vs=>cases a with
   |nil=>exact b.elim
   |cons d a=>
    obtain⟨p,q,k,i,_⟩:=b;obtain⟨E,m,o⟩:=alE h l (e 0 t v rfl rfl) k (c d az7);obtain⟨f,r,s,A⟩:=Sm h g (λj t v g C=>e (j+1) t v az8 az8) i (λd z=>c d az9);exact⟨_,.cons _ _ _ _ _ o r,.cons _ _ _ _ (.d _ _ m) s,az9⟩
theorem alH{W a:World}{G':bL}(h:Good W G0 a G'){p:MemPlace}(c:p.block<W.heap.size):W.sameAt a p:=by
 cases p with
 |cell b o=>exact aE9 (w:=W) (K5 h b c)
 |map b=>exact K5 h b c
theorem Sn{H:Type}{enc:TypeId×Value->H}{W i:World}{G':bL}(g:laidOutB P=true)(h:Good W G0 i G'):∀{ts:List Nat} {vs:List Value} {c:List (DataW H)} {ps:List MemPlace},
  (∀t,t∈ts->P.readableRec t=true/\t<P.types.size)->DataW.TrodAll enc P W 0 (λ_=>true) true ts vs c ps->(∀x,x∈ps->x.block<W.heap.size)->DataW.TrodAll enc P i 0 (λb=>decide (b<W.heap.size)) true ts vs c ps
 |[],vs,c,ps,_,a,_=>by
  cases vs with
  |nil=>cases c with
   |nil=>exact a
   |cons _ _=>exact a.elim
  |cons _ _=>exact a.elim
 |t::ts,vs,c,ps,h1,a,f=>by
  cases vs with
  |nil=>exact a.elim
  |cons v vs=>cases c with
   |nil=>exact a.elim
   |cons d c=>
    obtain⟨p,q,l,j,rfl⟩:=a;obtain⟨m,cq⟩:=h1 t az7;exact⟨p,q,WideElems.Trod_stays g m cq l (λx e=>alH h (f x (by simp[e]))) (λx e=>by simpa using f x (by simp[e])),
     Sn g h (λt k=>h1 t (by simp[k])) j (λx e=>f x (by simp[e])),rfl⟩
theorem alI{H:Type}{enc:TypeId×Value->H}{k:ChangeSpec}{a:Func}{f tb n base:Nat}{gl:Nat->List D}{B:DataW H->Nat}(S:CZ B){lY:List (Bool×List iI)}{args:Array Value}{c s:List (DataW H)}{M:List MemPlace}
  (m:k.vars=[]) (xy:c.length=a.params.size->k.fn H (c++s)={results:=[.lit (.bool true)],args:=c})
  (z:a.resultTypes= #[tb]) (J:P.underlying tb=some .bool) (E:laidOutB P=true) (aA:(a.params.toList.all λt=>P.readableRec t&&decide (t<P.types.size))=true)
  (A:a.params.toList.mapM (oC P n)=some lY) (C:K6 W gl)
  (V:∀(j:Nat) t v,a.params[j]?=some t->args[j]?=some v->Value.okWide P W .any base t v)
  (y:DataW.Whole enc P a.params.toList k.vars false W args.toList c s M) (L:∀d,d∈c->B d<=N)
  (Z:∀g,uQ N lY g->bD P gl f g [] (.d (.bool true)) []):
  Calls P f args W λe r=>∃v,e=.returned v/\k.post enc P a false true false false W args v r:=by
 have o:=y;obtain⟨p,ay,i,w,rfl,o4,ur⟩:=y;obtain⟨g,Q,R,ao⟩:=Sm S A (λj t v F u=>V j t v az8 az8) i L;obtain⟨_,Y⟩:=Z g Q;have xA:args=⟨args.toList⟩:=az7;have K:=Y W G0 [] args.toList ⟨rfl,λaq b ar h=>az7⟩ (alG C) (λb ad n h=>by grind[G0]) R;refine K.mono ?_;rintro e r ⟨v,G',aB,rfl,u,_,_,q,_⟩;have G:v=.bool true:=by
  have i:=u;cases i with
  |d _ _ h=>cases h;rfl
 subst G;rw[m]at w;obtain⟨rfl,rfl⟩:=ChangeShapes.trodVars_none w;have l:=xy az6;refine⟨_,rfl,c,[],p++[],[],p,[],o,?_,?_,?_,alF q,λh=>aAb⟩
 .rw[l];have U:a.resultTypes.size=1:=az9;rw[U,z];exact ChangeShapes.trodAll_mk1 (RowKit.shut_bool J true)
 .rw[l];refine Sn E q (λt F=> ?_) i (λx ai=>o.lt x az9);grind
 .rw[l,m];rfl
end
noncomputable def ag.cU(st:ag)(k:Nat)(v:ah):ag:=⟨λj=>@Bool.rec (λ_=>ah) (st.aR j) v (Nat.beq j k),st.bM,st.s⟩
theorem ag.alK(st:ag)(k:Nat)(v:ah):st.cU k v=st.set k v:=by
 unfold ag.cU ag.set;congr 1;funext j;simp only[cK];cases Nat.beq j k<;>rfl
noncomputable def aG5{b:Type}(f:b->Bool)(l:List b):Bool:=@List.rec b (λ_=>Bool) true (λa _ c=>@Bool.rec (λ_=>Bool) false c (f a)) l
theorem aHz{b:Type}{f g:b->Bool}(h:∀a,f a=g a)(l:List b):aG5 f l=l.all g:=by
 induction l with
 |nil=>rfl
 |cons a l ih=>
  show @Bool.rec (λ_=>Bool) false (aG5 f l) (f a)=_;rw[ih,h,aEI];cases g a<;>rfl
theorem aIY{a:Type}{f:a->Bool}{l:List a}(h:aG5 f l=true):∀x,x∈l->f x=true:=by
 rw[aHz λ_=>rfl]at h;exact aCQ.1 h
def aHk:ah->Bool
 |.d _=>true
 |.own _ _=>true
 |_=>false
noncomputable def aG1(o:cc):Bool:=match o with
 |.box cs=>aG5 aHk cs
 |_=>false
noncomputable def aHl(o:cc):List Nat:=@Bool.rec (λ_=>List Nat) o.refs [] (aG1 o)
noncomputable def aHg(f:Nat->Nat)(o:cc):cc:=@Bool.rec (λ_=>cc) (o.ren f) o (aG1 o)
noncomputable def aHm(n:Nat)(o:cc):Bool:=@Bool.rec (λ_=>Bool) (o.fB n) true (aG1 o)
theorem aHA{v:ah}(h:aHk v=true):(∀n,refs n v=[])/\(∀f n,ren f n v=v)/\∀m n,fB m n v=true:=by
 cases v<;>simp_all[aHk,refs,ren,fB]
theorem aHB{o:cc}(h:aG1 o=true):o.refs=[]/\(∀f,o.ren f=o)/\∀n,o.fB n=true:=by
 cases o with
 |box cs=>
  have h:=aIY (show aG5 aHk cs=true from h);refine⟨?_,λf=> ?_,λn=> ?_⟩
  .simp only[cc.refs,aF5];exact λx a=>(aHA (h x a)).1 _
  .simp only[cc.ren];congr 1;exact(aER λx a=>(aHA (h x a)).2.1 f _).trans (List.map_id' cs)
  .simp only[cc.fB,aCQ];exact λx a=>(aHA (h x a)).2.2 _ _
 |_=>exact absurd h (by simp[aG1])
theorem aHV(o:cc):aHl o=o.refs:=by
 unfold aHl;cases h:aG1 o with
 |false=>rfl
 |true=>exact(aHB h).1.symm
theorem aIZ(f:Nat->Nat)(o:cc):aHg f o=o.ren f:=by
 unfold aHg;cases h:aG1 o with
 |false=>rfl
 |true=>exact((aHB h).2.1 f).symm
theorem aHW(n:Nat)(o:cc):aHm n o=o.fB n:=by
 unfold aHm;cases h:aG1 o with
 |false=>rfl
 |true=>exact((aHB h).2.2 n).symm
noncomputable def aHn(s:aY)(n:Nat):List Nat->List Nat->List Nat:=@Nat.rec (λ_=>List Nat->List Nat->List Nat) (λ_ a=>a)
 (λ_ b l a=>match l with
  |[]=>a
  |i::todo=>@Bool.rec (λ_=>List Nat) (b (todo++aHl (s.getD i .dead)) (a++[i])) (b todo a) (du i a)) n
theorem aHX(s:aY):∀(n:Nat) (l acc:List Nat),aHn s n l acc=reach s n l acc
 |0,_,_=>rfl
 |_+1,[],_=>rfl
 |n+1,i::l,acc=>by
  show @Bool.rec (λ_=>List Nat) (aHn s n _ _) (aHn s n l acc) (du i acc)=_;simp only[reach,aHX,aHV];cases du i acc<;>rfl
noncomputable def aHC(s:aY)(a:List Nat)(args:List ah):Bool:=
 (args.flatMap (refs depth)).all (λi=>du i a)&&a.all λi=>(aHl (s.getD i .dead)).all λj=>du j a
theorem aI0(s:aY)(a:List Nat)(args:List ah):aHC s a args=closed s a args:=by
 simp only[aHC,closed,aHV]
def aHD{R:Type}(o:cc)(K:cc->R):R:=match o with
 |.box cs=>K (.box cs)
 |.dead=>K .dead
 |o=>K o
theorem aI1{R:Type}(o:cc)(K:cc->R):aHD o K=K o:=by
 cases o<;>rfl
noncomputable def tight{R:Type}(l:aY):(aY->R)->R:=@List.rec cc (λ_=>(aY->R)->R) (λK=>K []) (λo _ a K=>aHD o λo=>a λl=>K (o::l)) l
theorem aHY{R:Type}:∀(l:aY) (K:aY->R),tight l K=K l
 |[],_=>rfl
 |o::l,K=>by
  show aHD o (λo=>tight l λl=>K (o::l))=_;rw[aI1,aHY l]
noncomputable def aHE{R:Type}(l:List Nat):(List Nat->R)->R:=@List.rec Nat (λ_=>(List Nat->R)->R) (λK=>K []) (λo _ a K=>a λl=>K (o::l)) l
theorem aHZ{R:Type}:∀(l:List Nat) (K:List Nat->R),aHE l K=K l
 |[],_=>rfl
 |o::l,K=>by
  show aHE l (λl=>K (o::l))=_;rw[aHZ l]
noncomputable def aHo{R:Type}(A:mT R)(f:Nat)(args:List ah)(s:aY)(K:ah->aY->R):R:=
 tight s λs=>aHE (aHn s (s.length+s.length+8) (args.flatMap (refs depth)) []) λa=>
 A.guard (II s.length a&&nodupB a&&aHC s a args&&args.all (eo depth)) <|
 tight (a.map λi=>aHg (λi=>lN i a) (s.getD i .dead)) λt=>
 A.call f (args.map (ren (λi=>lN i a) depth)) t λr b=>
  A.guard (Nat.ble a.length b.length) <|
  tight (merge s a (b.map (aHg (back a s.length)))) λt=>K (ren (back a s.length) depth r) t
theorem aI2{R:Type}(A:mT R)(f:Nat)(args:List ah)(s:aY)(K:ah->aY->R):aHo A f args s K=lp A f args s K:=by
 unfold aHo lp;simp only[aHY,aHZ,aHX,aI0];congr 1;have h:∀g,aHg g=cc.ren g:=λg=>funext (aIZ g);simp only[h]
section
variable {R:Type}(A:mT R)(gl:Nat->List D)
noncomputable def Sr(d:Nat)(x:O)(st:ag)(K:ag->R):R:=
 K (st.cU d (snap (aO gl st x)))
noncomputable def Ss(d:Nat)(s:Nat)(st:ag)(K:ag->R):R:=
 K ((st.cU s .undef).cU d (st.aR s))
noncomputable def St(d:Nat)(x:O)(st:ag)(K:ag->R):R:=
 K ((kill st x).cU d (aO gl st x))
noncomputable def Sv(d:Nat)(c:O)(a:O)(b:O)(st:ag)(K:ag->R):R:=
 match aO gl st c with
  |.d (.bool t)=>cond t (K (st.cU d (snap (aO gl st a)))) (K (st.cU d (snap (aO gl st b))))
  |_=>A.fail
noncomputable def Sw(d:Nat)(z:List ah)(st:ag)(K:ag->R):R:=
 match st.bM d with
  |none=>K ((st.eg d z).cU d (.dw d 0))
  |some _=>A.fail
noncomputable def Sx(d:Nat)(x:O)(n:Nat)(st:ag)(K:ag->R):R:=
 match st.bM d with
  |none=>
   let cs:=cellsOf (gT (aO gl st x));A.guard (Nat.beq cs.length n&&cs.all (eo depth)) (K ((st.eg d cs).cU d (.dw d 0)))
  |some _=>A.fail
noncomputable def Sy(d:Nat)(z:List ah)(st:ag)(K:ag->R):R:=
 K ({st with s:=st.s++[cc.box z]}.cU d (.ptr st.s.length 0))
noncomputable def Sz(d:Nat)(x:O)(n:Nat)(st:ag)(K:ag->R):R:=
  let cs:=cellsOf (gT (aO gl st x));A.guard (Nat.beq cs.length n&&cs.all (eo depth)) (K ({st with s:=st.s++[cc.box cs]}.cU d (.ptr st.s.length 0)))
noncomputable def SA(d:Nat)(z:List ah)(ps:List (Nat×Nat×O))(st:ag)(K:ag->R):R:=
 match pM gl st z ps with
  |some cs=>K (st.cU d (.agg cs))
  |none=>A.fail
noncomputable def SB(d:Nat)(sz:Nat)(xs:List O)(st:ag)(K:ag->R):R:=
 match elems gl st sz xs with
  |some l=>K (st.cU d (.own sz l))
  |none=>A.fail
noncomputable def SC(d:Nat)(a:O)(t:Nat)(off:Nat)(n:Nat)(b:Bool)(st:ag)(K:ag->R):R:=
 match aO gl st a,st.bM t with
  |.dw e c,some cs=>
   A.guard (Nat.beq e t&&Nat.beq c off&&Nat.ble (off+n) cs.length) (K (st.cU d (valOf cs off n b)))
  |_,_=>A.fail
noncomputable def SD(d:Nat)(a:O)(t:Nat)(off:Nat)(st:ag)(K:ag->R):R:=
 match aO gl st a,st.bM t with
  |.dw c b,some cs=>
   A.guard (Nat.beq c t&&Nat.beq b off&&Nat.blt off cs.length) (K ((st.eg t (cs.set off .undef)).cU d (cs.getD off .undef)))
  |_,_=>A.fail
noncomputable def SE(a:O)(t:Nat)(off:Nat)(x:O)(n:Nat)(st:ag)(K:ag->R):R:=
 match aO gl st a,st.bM t with
  |.dw c b,some cs=>
   let vs:=cellsOf (aO gl st x);A.guard (Nat.beq c t&&Nat.beq b off&&Nat.beq vs.length n&&Nat.ble (off+n) cs.length&&vs.all kT) (K ((kill st x).eg t (putCells cs off vs)))
  |_,_=>A.fail
noncomputable def SF(d:Nat)(a:O)(n:Nat)(b:Bool)(st:ag)(K:ag->R):R:=
 match aO gl st a with
  |.ptr i off=>match st.s.getD i .dead with
   |.box cs=>A.guard (Nat.ble (off+n) cs.length&&(b||Nat.beq n 1)) (K (st.cU d (valOf cs off n b)))
   |_=>A.fail
  |.d (.e2 cs off)=>A.guard (Nat.ble (off+n) cs.length) (K (st.cU d (.d (cond b (.agg ((cs.drop off).take n)) (cs.getD off .dJ)))))
  |_=>A.fail
noncomputable def SG(d:Nat)(a:O)(st:ag)(K:ag->R):R:=
 match aO gl st a with
  |.ptr i off=>match st.s.getD i .dead with
   |.box cs=>A.guard (Nat.blt off cs.length) (K ({st with s:=st.s.set i (.box (cs.set off .undef))}.cU d (cs.getD off .undef)))
   |_=>A.fail
  |_=>A.fail
noncomputable def SH(a:O)(x:O)(n:Nat)(st:ag)(K:ag->R):R:=
 match aO gl st a with
  |.ptr i off=>match st.s.getD i .dead with
   |.box cs=>
    let vs:=cellsOf (aO gl st x);A.guard (Nat.beq vs.length n&&Nat.ble (off+n) cs.length&&vs.all kT) (K {kill st x with s:=st.s.set i (.box (putCells cs off vs))})
   |_=>A.fail
  |_=>A.fail
noncomputable def SI(d:Nat)(x:O)(st:ag)(K:ag->R):R:=
 match aO gl st x with
  |.ptr i o=>K (st.cU d (.ptr i o))
  |.dw t o=>K (st.cU d (.dw t o))
  |.d (.e2 cs o)=>K (st.cU d (.d (.e2 cs o)))
  |.d (.fn f)=>K (st.cU d (.d (.fn f)))
  |.func f a c=>K (st.cU d (.func f a c))
  |_=>A.fail
noncomputable def SJ(d:Nat)(op:BinOp)(x:O)(y:O)(st:ag)(K:ag->R):R:=
 match aO gl st x,aO gl st y with
  |.d (.int k a),.d (.int k' b)=>match xj op k a b with
   |some r=>A.guard (decide (0<=b)) (K (st.cU d (.d r)))
   |none=>match BJ op k a b with
    |some (ok,r)=>A.guard (decide (k=k')) (A.guard ok (K (st.cU d (.d r))))
    |none=>A.fail
  |.d (.str a),.d (.str b)=>match BK op a b with
   |some (ok,r)=>A.guard ok (K (st.cU d (.d r)))
   |none=>A.fail
  |_,_=>A.fail
noncomputable def SK(d:Nat)(neg:Bool)(c:Bool)(e:List Nat)(x:O)(y:O)(st:ag)(K:ag->R):R:=
 match hI (aO gl st x),hI (aO gl st y)with
  |some a,some b=>A.guard (fc c a&&fc c b) <| match cG e a.cells b.cells with
   |some r=>K (st.cU d (.d (.bool (cond neg (!r) r))))
   |none=>A.fail
  |_,_=>A.fail
noncomputable def SL(d:Nat)(op:UnOp)(x:O)(st:ag)(K:ag->R):R:=
 match op,aO gl st x with
  |.not,.d (.bool b)=>K (st.cU d (.d (.bool (!b))))
  |.neg,.d (.int k n)=>K (st.cU d (.d (.int k (k.wrap (0-n)))))
  |.xor,.d (.int k n)=>K (st.cU d (.d (.int k (k.wrap (BitVec.ofInt k.bits (if k.signed then -1 else k.max)^^^BitVec.ofInt k.bits n).toNat))))
  |_,_=>A.fail
noncomputable def SM(d:Nat)(k:IntKind)(x:O)(st:ag)(K:ag->R):R:=
 match aO gl st x with
  |.d (.int _ n)=>K (st.cU d (.d (.int k (k.wrap n))))
  |_=>A.fail
noncomputable def SN(d:Nat)(x:O)(st:ag)(K:ag->R):R:=
 match aO gl st x with
  |.d (.str s)=>K (st.cU d (.d (.list 1 (s.map fO))))
  |_=>A.fail
noncomputable def SP(d:Nat)(x:O)(st:ag)(K:ag->R):R:=
 match hJ (aO gl st x)with
  |some (_,l)=>match nJ l with
   |some s=>K (st.cU d (.d (.str s)))
   |none=>A.fail
  |none=>A.fail
noncomputable def SQ(d:Nat)(x:O)(off:Nat)(st:ag)(K:ag->R):R:=
 match aO gl st x with
  |.ptr i o=>K (st.cU d (.ptr i (o+off)))
  |.dw t o=>K (st.cU d (.dw t (o+off)))
  |.d (.e2 cs o)=>K (st.cU d (.d (.e2 cs (o+off))))
  |_=>A.fail
noncomputable def SR(d:Nat)(x:O)(off:Nat)(n:Nat)(a:Bool)(st:ag)(K:ag->R):R:=
  let cs:=cellsOf (aO gl st x);A.guard (xh (aO gl st x)&&Nat.ble (off+n) cs.length) (K (st.cU d (valOf cs off n a)))
noncomputable def SS(d:Nat)(x:O)(i:O)(sz:Nat)(st:ag)(K:ag->R):R:=
 match aO gl st i with
  |.d (.int _ n)=>match aO gl st x with
   |.aP j off len _ a=>A.guard (Nat.beq a sz&&decide (0<=n)&&decide (n<len)) (K (st.cU d (.ptr j (off+n.toNat*sz))))
   |v=>match hJ v with
    |some (a,l)=>A.guard (Nat.beq a sz&&decide (0<=n)&&decide (n<l.length)) (K (st.cU d (.d (.e2 (l.getD n.toNat .dJ).cells 0))))
    |none=>A.fail
  |_=>A.fail
noncomputable def SU(d:Nat)(x:O)(i:O)(len:Nat)(sz:Nat)(st:ag)(K:ag->R):R:=
 match aO gl st i with
  |.d (.int _ n)=>A.guard (decide (0<=n)&&decide (n<len)) <| match aO gl st x with
   |.ptr j o=>K (st.cU d (.ptr j (o+n.toNat*sz)))
   |.dw t o=>K (st.cU d (.dw t (o+n.toNat*sz)))
   |.d (.e2 cs o)=>K (st.cU d (.d (.e2 cs (o+n.toNat*sz))))
   |_=>A.fail
  |_=>A.fail
noncomputable def SV(d:Nat)(x:O)(i:O)(st:ag)(K:ag->R):R:=
 match aO gl st x,aO gl st i with
  |.d (.str s),.d (.int _ n)=>A.guard (decide (0<=n)&&decide (n<s.length)) (K (st.cU d (.d (fO (s.getD n.toNat 0)))))
  |_,_=>A.fail
noncomputable def SX(d:Nat)(x:O)(lo:Option O)(hi:Option O)(st:ag)(K:ag->R):R:=
 match aO gl st x with
  |.d (.str s)=>match bound gl st 0 lo,bound gl st s.length hi with
   |some l,some h=>A.guard (decide (0<=l)&&decide (l<=h)&&decide (h<=s.length)) (K (st.cU d (.d (.str ((s.drop l.toNat).take (h.toNat-l.toNat))))))
   |_,_=>A.fail
  |_=>A.fail
noncomputable def SY(d:Nat)(a:Nat)(x:O)(lo:Option O)(hi:Option O)(mx:Option O)(st:ag)(K:ag->R):R:=
 match aO gl st x with
  |.aP j off len cap sz=>match bound gl st 0 lo,bound gl st len hi,bound gl st cap mx with
   |some l,some h,some m=>A.guard (Nat.beq sz a&&decide (0<=l)&&decide (l<=h)&&decide (h<=m)&&decide (m<=cap)) (K (st.cU d (cond (decide (l=m)) (.d (.list sz [])) (.aP j (off+l.toNat*sz) (h.toNat-l.toNat) (m.toNat-l.toNat) sz))))
   |_,_,_=>A.fail
  |v=>match hJ v with
  |some (sz,s)=>match bound gl st 0 lo,bound gl st s.length hi,bound gl st s.length mx with
   |some l,some h,some m=>A.guard (Nat.beq sz a&&decide (0<=l)&&decide (l<=h)&&decide (h<=m)&&decide (m<=s.length)) (K (st.cU d (.d (.list sz ((s.drop l.toNat).take (h.toNat-l.toNat))))))
   |_,_,_=>A.fail
  |none=>A.fail
noncomputable def SZ(d:Nat)(f:Nat)(first:List O)(b:List O)(st:ag)(K:ag->R):R:=
 match first,b with
  |[],[]=>K (st.cU d (.d (.fn f)))
  |_,_=>
   let a:=first.map λx=>cX (snap (aO gl st x))
   let cs:=b.map λx=>cX (snap (aO gl st x));A.guard (a.all (eo depth)&&cs.all (eo depth)) (K (st.cU d (.func f a cs)))
noncomputable def S0(d:Option Nat)(f:O)(args:List O)(st:ag)(K:ag->R):R:=
 match aO gl st f with
  |.d (.fn f)=>aHo A f (args.map (j' gl st)) st.s λr b=>K ({st with s:=b}.dQ d r)
  |.func f a c=>aHo A f (a++args.map (j' gl st)++c) st.s λr b=>K ({st with s:=b}.dQ d r)
  |_=>A.fail
noncomputable def S1(d:Nat)(s:Nat)(x:O)(sz:Nat)(a:Nat)(st:ag)(K:ag->R):R:=
 hT A gl false false d s x sz a st K
noncomputable def S2(d:Nat)(str:Bool)(x:O)(st:ag)(K:ag->R):R:=
 match aO gl st x with
  |.aP _ _ len _ _=>A.guard (!str) (K (st.cU d (.d (.int .i64 len))))
  |.d (.str s)=>A.guard str (K (st.cU d (.d (.int .i64 s.length))))
  |v=>match hJ v with
   |some (_,l)=>A.guard (!str) (K (st.cU d (.d (.int .i64 l.length))))
   |none=>A.fail
noncomputable def S3(d:Nat)(x:O)(i:Nat)(st:ag)(K:ag->R):R:=
 match aO gl st x with
  |.tuple vs=>A.guard (Nat.blt i vs.length) (K (st.cU d (vs.getD i .undef)))
  |_=>A.fail
noncomputable def S4(d:Nat)(st:ag)(K:ag->R):R:=
 K ({st with s:=st.s++[cc.map []]}.cU d (.map st.s.length))
noncomputable def S5(d:Nat)(b:Bool)(c:List Nat)(m:O)(k:O)(z:ah)(a:Bool)(st:ag)(K:ag->R):R:=
 match hI (aO gl st k)with
  |none=>A.fail
  |some k=>A.guard (fc b k&&(cG c k.cells k.cells).isSome) <| match aO gl st m with
   |.d .h9=>K (st.cU d (cond a (.tuple [cX z,.d (.bool false)]) (cX z)))
   |.d (.lM aGH f)=>match e4 b c k ((aGH.zip f).map λe=>(e.1,.d e.2)) 0 with
    |some none=>K (st.cU d (cond a (.tuple [cX z,.d (.bool false)]) (cX z)))
    |some (some j)=>match f[j]? with
     |some v=>K (st.cU d (cond a (.tuple [.d v,.d (.bool true)]) (.d v)))
     |none=>A.fail
    |none=>A.fail
   |.map i=>match st.s.getD i .dead with
    |.map es=>match e4 b c k es 0 with
     |some none=>K (st.cU d (cond a (.tuple [cX z,.d (.bool false)]) (cX z)))
     |some (some j)=>match es[j]? with
      |some e=>K (st.cU d (cond a (.tuple [e.2,.d (.bool true)]) e.2))
      |none=>A.fail
     |none=>A.fail
    |_=>A.fail
   |_=>A.fail
noncomputable def S6(a:Bool)(b:List Nat)(m:O)(k:O)(x:O)(st:ag)(K:ag->R):R:=
 match aO gl st m,hI (aO gl st k)with
  |.map i,some k=>match st.s.getD i .dead with
   |.map es=>match e4 a b k es 0 with
    |some j=>A.guard (eo depth (cX (aO gl st x))&&fc a k&&(cG b k.cells k.cells).isSome) (K {st with s:=st.s.set i (.map (nI es k (cX (aO gl st x)) j))})
    |none=>A.fail
   |_=>A.fail
  |_,_=>A.fail
noncomputable def S7(d:Nat)(lt:Bool)(x:O)(y:O)(st:ag)(K:ag->R):R:=
 match aO gl st x,aO gl st y with
  |.d (.int k a),.d (.int k' b)=>A.guard (decide (k=k')) (K (st.cU d (.d (.int k (cond (cond lt (decide (b<a)) (decide (a<b))) b a)))))
  |_,_=>A.fail
noncomputable def S8(d:Nat)(neg:Bool)(a:Nat)(x:O)(st:ag)(K:ag->R):R:=
 match a with
  |0=>match xi (aO gl st x)with
   |some (_,_::_)=>K (st.cU d (.d (.bool neg)))
   |some (_,[])=>A.both (K (st.cU d (.d (.bool neg)))) (K (st.cU d (.d (.bool (!neg)))))
   |none=>A.fail
  |1=>match aO gl st x with
   |.map _=>K (st.cU d (.d (.bool neg)))
   |.d .h9=>K (st.cU d (.d (.bool (!neg))))
   |_=>A.fail
  |2=>match aO gl st x with
   |.func _ _ _|.d (.fn _)=>K (st.cU d (.d (.bool neg)))
   |.d .lL=>K (st.cU d (.d (.bool (!neg))))
   |_=>A.fail
  |4=>match aO gl st x with
   |.d (.iface _ _)|.d .ix=>K (st.cU d (.d (.bool neg)))
   |.d .iK=>K (st.cU d (.d (.bool (!neg))))
   |_=>A.fail
  |3=>match aO gl st x with
   |.ptr _ _|.d (.e2 _ _)=>K (st.cU d (.d (.bool neg)))
   |.d .dJ=>K (st.cU d (.d (.bool (!neg))))
   |_=>A.fail
  |_=>A.fail
noncomputable def S9(d:Nat)(k:Nat)(x:O)(y:O)(st:ag)(K:ag->R):R:=
 match aO gl st x,aO gl st y with
  |.d (.str a),.d (.str b)=>match IK k a b with
   |some r=>K (st.cU d (.d r))
   |none=>A.fail
  |_,_=>A.fail
noncomputable def S'(a:Option Nat)(st:ag)(K:ag->R):R:=
 A.fail
noncomputable def Ta(d:Option Nat)(st:ag)(K:ag->R):R:=
 K (st.dQ d .undef)
noncomputable def Tb(d:Nat)(s:Nat)(z:Nat)(i:Nat)(x:O)(sz:Nat)(b:Nat)(st:ag)(K:ag->R):R:=
 match st.aR s,tJ (st.aR z),st.aR i,hI (aO gl st x)with
  |.own e l,some (c,[_]),.d (.int _ n),some a=>
   A.guard (Nat.beq e sz&&Nat.beq c sz&&decide (n=l.length)&&Nat.ble (l.length+1) b&&Nat.beq a.cells.length sz&&a.cells.all jt) (K ((st.cU s .undef).cU d (.own sz (l++[a]))))
  |_,_,_,_=>A.fail
noncomputable def Tc(d:Nat)(s:Nat)(x:O)(sz:Nat)(a:Nat)(st:ag)(K:ag->R):R:=
 hT A gl true false d s x sz a st K
noncomputable def Td(d:Nat)(s:Nat)(x:O)(sz:Nat)(a:Nat)(st:ag)(K:ag->R):R:=
 hT A gl true true d s x sz a st K
noncomputable def Te(d:Nat)(sz:Nat)(xs:List O)(st:ag)(K:ag->R):R:=
  let vs:=xs.map λx=>cellsOf (gT (aO gl st x));A.guard (!xs.isEmpty&&vs.all λl=>Nat.beq l.length sz&&l.all kT) (K ({st with s:=st.s++[cc.box vs.flatten]}.cU d (.aP st.s.length 0 xs.length xs.length sz)))
noncomputable def Tf(d:Nat)(sz:Nat)(z:List ah)(n:O)(a:Nat)(st:ag)(K:ag->R):R:=
 match aO gl st n with
  |.d (.int _ n)=>A.guard (decide (0<=n)&&decide (n<=a)) (K ({st with s:=st.s++[cc.box (List.replicate n.toNat z).flatten]}.cU d (.aP st.s.length 0 n.toNat n.toNat sz)))
  |_=>A.fail
noncomputable def Tg(d:Option Nat)(x:O)(z:List ah)(st:ag)(K:ag->R):R:=
 match aO gl st x with
  |.aP i off len _ sz=>match st.s.getD i .dead with
   |.box cs=>A.guard (Nat.beq z.length sz&&Nat.ble (off+len*sz) cs.length) (K ({st with s:=st.s.set i (.box (putCells cs off (List.replicate len z).flatten))}.dQ d (.tuple [])))
   |_=>A.fail
  |v=>match hJ v with
   |some (_,[])=>K (st.dQ d (.tuple []))
   |_=>A.fail
noncomputable def Ti(d:Nat)(x:O)(i:O)(len:Nat)(sz:Nat)(a:Bool)(st:ag)(K:ag->R):R:=
 match aO gl st i with
  |.d (.int _ n)=>
   let cs:=cellsOf (aO gl st x);A.guard (decide (0<=n)&&decide (n<len)&&xh (aO gl st x)&&Nat.ble (n.toNat*sz+sz) cs.length) (K (st.cU d (valOf cs (n.toNat*sz) sz a)))
  |_=>A.fail
noncomputable def Tj(d:Nat)(t:Nat)(e:Nat)(st:ag)(K:ag->R):R:=
 K ({st with s:=st.s++[cc.h' t e []]}.cU d (.ptr st.s.length 0))
noncomputable def Tk(d:Nat)(a:O)(n:Nat)(st:ag)(K:ag->R):R:=
 match aO gl st a with
  |.ptr i off=>match tL i st.s off n with
   |some b=>match b.getD i .dead with
    |.box cs=>A.guard (Nat.ble (off+n) cs.length) (K ({st with s:=b}.cU d (valOf cs off n true)))
    |_=>A.fail
   |none=>A.fail
  |_=>A.fail
noncomputable def Tl(d:Nat)(own:Bool)(x:O)(st:ag)(K:ag->R):R:=
 match aO gl st x with
  |.aP k off len cap sz=>match pN st.s (.aP k off len cap sz)with
   |some (y,k)=>K ({st with s:=st.s.set k .dead}.cU d (cond own (match y with|.list sz l=>iL sz l|y=>.d y) (.d y)))
   |none=>A.fail
  |v=>K ((kill st x).cU d v)
noncomputable def Tm(d:Nat)(s:Nat)(a:Nat)(x:O)(st:ag)(K:ag->R):R:=
 match st.aR s,aO gl st x with
  |.own sz l,.d (.int _ n)=>A.guard (Nat.beq sz a&&decide (0<=n)&&decide (n<=l.length)&&!l.isEmpty) (K ((st.cU s .undef).cU d (iL sz (l.drop n.toNat))))
  |_,_=>A.fail
noncomputable def Tn(d:Nat)(x:O)(st:ag)(K:ag->R):R:=
 match x with
  |.t s=>match st.aR s with
   |.raw sz n cs=>K (({st with s:=st.s++[cc.box (jS cs)]}.cU s (.aP st.s.length 0 n n sz)).cU d (.aP st.s.length 0 n n sz))
   |.ptr i off=>match st.s.getD i .dead with
    |.box cs=>match qZ i st.s 0 cs.length with
     |some a=>K ({st with s:=a}.cU d (.ptr i off))
     |none=>A.fail
    |_=>A.fail
   |v=>K (st.cU d (snap v))
  |_=>A.fail
noncomputable def Gl(i:I):ag->(ag->R)->R:=@I.casesOn (λ_=>ag->(ag->R)->R) i (Sr gl) Ss (St gl) (Sv A gl) (Sw A) (Sx A gl) Sy (Sz A gl) (SA A gl) (SB A gl) (SC A gl) (SD A gl) (SE A gl) (SF A gl) (SG A gl) (SH A gl) (SI A gl) (SJ A gl) (SK A gl) (SL A gl) (SM A gl) (SN A gl) (SP A gl) (SQ A gl) (SR A gl) (SS A gl) (SU A gl) (SV A gl) (SX A gl) (SY A gl) (SZ A gl) (S0 A gl) (S1 A gl) (S2 A gl) (S3 A gl) S4 (S5 A gl) (S6 A gl) (S7 A gl) (S8 A gl) (S9 A gl) (S' A) Ta (Tb A gl) (Tc A gl) (Td A gl) (Te A gl) (Tf A gl) (Tg A gl) (Ti A gl) Tj (Tk A gl) (Tl A gl) (Tm A gl) (Tn A)
theorem To(i:I):Gl A gl i=step A gl i:=by
 funext st K;cases i<;>(simp only[Gl,step,Sr,Ss,St,Sv,Sw,Sx,Sy,Sz,SA,SB,SC,SD,SE,SF,SG,SH,SI,SJ,SK,SL,SM,SN,SP,SQ,SR,SS,SU,SV,SX,SY,SZ,S0,S1,S2,S3,S4,S5,S6,S7,S8,S9,S',Ta,Tb,Tc,Td,Te,Tf,Tg,Ti,Tj,Tk,Tl,Tm,Tn,ag.alK,aI2];try rfl)
def Tp(s:Nat)(w:Bool)(d:Option Nat)(f:ag->(ag->R)->R)(st:ag)(K:ag->R):R:=match st.aR s with
 |.d (.bool b)=>cond (cond w b (!b)) (f st K) (K (st.dQ d (.tuple [])))
 |.tuple []=>K (st.dQ d (.tuple []))
 |_=>A.fail
noncomputable def C1(g:cm):ag->(ag->R)->R:=@cm.casesOn (λ_=>ag->(ag->R)->R) g λa i=>
 @Option.casesOn (Nat×Bool) (λ_=>ag->(ag->R)->R) a (Gl A gl i) λp=>@Prod.casesOn Nat Bool (λ_=>ag->(ag->R)->R) p λs w=>Tp A s w i.dst (Gl A gl i)
theorem alL(g:cm)(st:ag)(K:ag->R):C1 A gl g st K=step1 A gl g st K:=by
 obtain⟨a,i⟩:=g;cases a with
 |none=>simp[C1,step1,To]
 |some p=>
  obtain⟨s,w⟩:=p;simp[C1,step1,To,Tp];rfl
theorem alM(g:cm)(l:List cm)(st:ag)(K:ag->R):steps A gl (g::l) st K=step1 A gl g st λst=>steps A gl l st K:=by
 obtain⟨a,i⟩:=g;grind[steps,step1]
noncomputable def K7(l:List cm):ag->(ag->R)->R:=@List.rec cm (λ_=>ag->(ag->R)->R) (λa K=>K a) (λg _ b a K=>C1 A gl g a λa=>b a K) l
theorem Tq:∀(l:List cm) (st:ag) (K:ag->R),K7 A gl l st K=steps A gl l st K
 |[],_,_=>rfl
 |g::l,st,K=>by
  rw[alM];show C1 A gl g st (λst=>K7 A gl l st K)=_;rw[alL];congr 1;funext st;exact Tq l st K
def Tr(a:ag->(aD->ag->R)->R)(K:aD->ag->R)(x:aD)(st:ag):R:=match x with
 |.normal=>a st K
 |x=>K x st
def K8(c:O)(a b:ag->(aD->ag->R)->R)(st:ag)(K:aD->ag->R):R:=match aO gl st c with
 |.d (.bool t)=>cond t (a st K) (b st K)
 |_=>A.fail
def Ts(i:Nat)(K:aD->ag->R)(x:aD)(st:ag):R:=match x with
 |.exit j=>cond (Nat.beq j i) (K .normal st) (K (.exit j) st)
 |x=>K x st
noncomputable def aHp(n:Nat)(b:Unit->Bool)(s:aY):aY:=@Bool.rec (λ_=>aY) (cond (b ()) (s.take n) s) s (Nat.ble s.length n)
theorem aH0{n:Nat}{b:Unit->Bool}{c:Bool}{s:aY}(h:b ()=c):aHp n b s=cond c (s.take n) s:=by
 subst h;unfold aHp;cases h:Nat.ble s.length n with
 |false=>rfl
 |true=>
  have:=aCM h;cases b ()<;>simp[aDd this]
noncomputable def aHF(n:Nat)(r:ah)(s:aY):aY:=aHp n (λ_=>fB n depth r&&aG5 (aHm n) (s.take n)) s
theorem aI3(n:Nat)(r:ah)(s:aY):aHF n r s=gc n r s:=by
 unfold aHF gc;exact aH0 (by rw[aHz (aHW n)])
noncomputable def aHh(n:Nat)(ts a:List Nat)(st:ag)(K:ag->R):R:=
 A.guard (keeps st.aR a ts) (K ⟨tN st.aR ts,tO st.bM a,aHp n (λ_=>ts.all (λt=>fB n depth (st.aR t))&&a.all (okB n st.bM)&&aG5 (aHm n) (st.s.take n)) st.s⟩)
theorem aH1(n:Nat)(ts a:List Nat)(st:ag)(K:ag->R):aHh A n ts a st K=forget A n ts a st K:=by
 unfold aHh forget EI;rw[aH0 (by rw[aHz (aHW n)])]
noncomputable def Tt(ts a:List Nat)(n:Nat)(K:aD->ag->R)(b:ag->R)(x:aD)(st:ag):R:=match x with
 |.normal=>aHh A n ts a st b
 |x=>K x st
def Tv(x:O)(ps:List Nat)(b a:ag->(aD->ag->R)->R)(st:ag)(K:aD->ag->R):R:=match aO gl st x with
 |.func g [] c=>pQ A gl b a ps g c st K
 |.d (.fn g)=>pQ A gl b a ps g [] st K
 |_=>A.fail
noncomputable def aHq(a:Nat)(g:cm)(st:ag)(K:ag->R):R:=@Bool.rec (λ_=>R) (C1 A gl g st K)
 (match g.g,ku gl g.i st with
  |none,some (o,d,v)=>A.guard (Nat.blt a st.s.length) (K ({st with s:=st.s.set a o}.set d (v a)))
  |_,_=>A.fail) (ic g.i)
theorem aI4(a:Nat)(g:cm)(st:ag)(K:ag->R):aHq A gl a g st K=kV A gl a g st K:=by
 unfold aHq kV;rw[alL];cases ic g.i<;>rfl
noncomputable def aHG(l:List cm):List (List Nat)->List (cm×ju)->Nat->ag->(ag->R)->R:=@List.rec cm (λ_=>List (List Nat)->List (cm×ju)->Nat->ag->(ag->R)->R) (λ_ _ _ b K=>K b)
 (λg _ h e d a b K=>aHq A gl a g b λc=>A.guard ((e.headD []).all λi=>match d[i]? with
   |some (x,f)=>BM x f g (vA gl a g b c)
   |none=>false) (h e.tail (d++[(g,vA gl a g b c)]) (cond (ic g.i) (a+1) a) c K)) l
theorem aH2:∀(l:List cm) (b:List (List Nat)) (acc:List (cm×ju)) (a:Nat) (st:ag) (K:ag->R),aHG A gl l b acc a st K=q2 A gl l b acc a st K
 |[],_,_,_,_,_=>rfl
 |g::l,b,acc,a,st,K=>by
  show aHq A gl a g st (λc=>A.guard _ (aHG A gl l b.tail _ _ c K))=kV A gl a g st _;rw[aI4];congr 1;funext c;rw[aH2 l];first|rfl|(congr 2;done)|(congr 2;funext i;cases acc[i]?<;>rfl)
noncomputable def aH3(l:List cm)(a:List (List Nat))(st:ag)(K:ag->R):R:=aHG A gl l a [] st.s.length (st.room (pP l)) K
theorem aI5(l:List cm)(a:List (List Nat))(st:ag)(K:ag->R):aH3 A gl l a st K=q3 A gl l a st K:=aH2 A gl l a _ _ _ K
noncomputable def qi(c:eL):ag->(aD->ag->R)->R:=@eL.rec (λ_=>ag->(aD->ag->R)->R)
 (λa K=>K .normal a)
 (λl a K=>K7 A gl l a (K .normal))
 (λl h a K=>aH3 A gl l h a (K .normal))
 (λ_ _=>A.fail)
 (λ_ _ d b a K=>d a (Tr b K))
 (λc _ _ d b=>K8 A gl c d b)
 (λi _ b a K=>b a (Ts i K))
 (λg f _ b a K=>aHh A a.s.length g f a λm=>A.fix (λe k=>b e (Tt A g f e.s.length K k)) m)
 (λx j _ _ d b=>Tv A gl x j d b)
 (λi a K=>K (.exit i) a)
 (λa K=>K .ret a) c
theorem alN:∀(c:eL) (st:ag) (K:aD->ag->R),qi A gl c st K=run A gl c st K:=by
 intro c;induction c with
 |skip=>intro st K;rfl
 |ops l=>intro st K;exact Tq A gl l st _
 |any l n=>intro st K;exact aI5 A gl l n st _
 |bad=>intro st K;rfl
 |seq a b g f=>
  intro st K;show qi A gl a st (Tr (qi A gl b) K)=run A gl a st _;rw[g];congr 1;funext x st;cases x<;>first|rfl|exact f st K
 |cond c a b g f=>
  intro st K;show K8 A gl c (qi A gl a) (qi A gl b) st K=_;grind[K8,run]
 |block i b ih=>
  intro st K;show qi A gl b st (Ts i K)=run A gl b st _;rw[ih];congr 1
 |loop ts bs b ih=>
  intro st K;show aHh A st.s.length ts bs st (λj=>A.fix (λd e=>qi A gl b d (Tt A ts bs d.s.length K e)) j)=_;have h:∀(d:ag) (e:ag->R),(λ(x:aD) (st:ag)=>Tt A ts bs d.s.length K e x st)=λx st=>match x with|.normal=>forget A d.s.length ts bs st e|x=>K x st:=by
   intro d e;funext x st;cases x<;>simp[Tt,aH1]
  rw[aH1];simp only[run,ih];congr 1;funext j;congr 1;funext d e;exact congrArg _ (h d e)
 |iy x o a b g f=>
  intro st K;show Tv A gl x o (qi A gl a) (qi A gl b) st K=_;have m:qi A gl a=run A gl a:=az9;have k:qi A gl b=run A gl b:=az9;rw[m,k];rfl
 |exit i=>intro st K;rfl
 |ret=>intro st K;rfl
noncomputable def alO(a:List oW)(K:ah->aY->R)(n:Nat)(x:aD)(st:ag):R:=match x with
 |.exit _=>A.fail
 |_=>match q4 st a with
  |some r=>A.guard (eo depth r) (K r (aHF n r st.s))
  |none=>A.fail
noncomputable def Gn(a:aW)(args:List ah)(s:aY)(K:ah->aY->R):R:=
 qi A gl a.code ⟨sg args 0,λ_=>none,s⟩ (alO A a.res K s.length)
theorem alP(a:aW)(args:List ah)(s:aY)(K:ah->aY->R):Gn A gl a args s K=mf A gl a args s K:=by
 unfold Gn mf;rw[alN];congr 1;funext x st;cases x<;>simp[alO,aI3]<;>rfl
end
noncomputable def Gp(n:Nat):(ag->(ag->Out)->Out)->ag->Out:=@Nat.rec (λ_=>(ag->(ag->Out)->Out)->ag->Out) (λ_ _=>none) (λ_ a F b=>F b (a F)) n
theorem Tw:∀(n:Nat) (F:ag->(ag->Out)->Out) (st:ag),Gp n F st=wj n F st
 |0,_,_=>rfl
 |n+1,F,st=>by
  show F st (Gp n F)=F st _;congr 1;funext st;exact Tw n F st
def alQ(b:Bool)(p:Out):Out:=cond b p none
def alR(a:Nat->List ah->aY->Out)(f:Nat)(args:List ah)(s:aY)(K:ah->aY->Out):Out:=match a f args s with
 |some (r,b)=>K r b
 |none=>none
def alS(p q:Out):Out:=match p,q with
 |some a,some b=>cond (CO a b) (some a) none
 |_,_=>none
def alT(tab:Nat->Option aW)(g:Nat)(k:aW->Out):Out:=match tab g with
 |some a=>k a
 |none=>none
noncomputable def Gq(tab:Nat->Option aW)(a:Nat->List ah->aY->Out)(b:Nat):mT Out:=⟨none,alQ,alR a,Gp b,alS,alT tab⟩
theorem alU(tab:Nat->Option aW)(a:Nat->List ah->aY->Out)(fuel:Nat):Gq tab a fuel=gi tab a fuel:=by
 have h:Gp fuel=λF st=>wj fuel F st:=by
  grind[Tw]
 unfold Gq;rw[h];rfl
noncomputable def rK(ext:Nat->List ah->aY->Out)(tab:Nat->Option aW)(gl:Nat->List D)(c n:Nat):Nat->List ah->aY->Out:=
 @Nat.rec (λ_=>Nat->List ah->aY->Out) (λ_ _ _=>none) (λ_ d f a s=>match ext f a s with
  |some r=>some r
  |none=>match tab f with
   |some b=>Gn (Gq tab d c) gl b a s λr e=>some (r,e)
   |none=>none) n
theorem Tx(ext:Nat->List ah->aY->Out)(tab:Nat->Option aW)(gl:Nat->List D)(a:Nat):∀n,rK ext tab gl a n=CU ext tab gl a n
 |0=>rfl
 |n+1=>by
  funext f args s;show(match ext f args s with
   |some r=>some r
   |none=>match tab f with
    |some b=>Gn (Gq tab (rK ext tab gl a n) a) gl b args s λr c=>some (r,c)
    |none=>none)=_
  rw[Tx ext tab gl a n,alU];simp[alP];rfl
def ye:List ah->List ah->Bool
 |[],[]=>true
 |a::l,b::m=>s6 depth a b&&ye l m
 |_,_=>false
def s8:aY->aY->Bool
 |[],[]=>true
 |a::l,b::m=>AE a b&&s8 l m
 |_,_=>false
theorem Ty:∀{a b:List ah},ye a b=true->a=b
 |[],[],_=>rfl
 |[],_::_,h=>by grind[ye]
 |_::_,[],h=>by grind[ye]
 |a::l,b::m,h=>by
  simp[ye,aCx]at h;rw[CQ _ _ _ h.1,Ty h.2]
theorem Tz:∀{a b:aY},s8 a b=true->a=b
 |[],[],_=>rfl
 |[],_::_,h=>by grind[s8]
 |_::_,[],h=>by grind[s8]
 |a::l,b::m,h=>by
  simp[s8,aCx]at h;rw[R4 _ _ h.1,Tz h.2]
def uS(f:Nat)(args:List ah)(s:aY)(r:ah)(s':aY)(base:Nat->List ah->aY->Out):Nat->List ah->aY->Out:=λb a c=>
 cond (Nat.beq b f) (cond (ye a args) (cond (s8 c s) (some (r,s')) (base b a c)) (base b a c)) (base b a c)
theorem yf{P:Program}{gl:Nat->List D}{f:Nat}{args:List ah}{s:aY}{r:ah}{s':aY}{base:Nat->List ah->aY->Out}(c:hP P gl base)(h:bD P gl f args s r s'):hP P gl (uS f args s r s' base):=by
 intro g e i r0 j a;unfold uS at a;cases h1:Nat.beq g f with
 |false=>rw[h1]at a;exact c _ _ _ _ _ a
 |true=>
  cases b:ye e args with
  |false=>rw[h1,b]at a;exact c _ _ _ _ _ a
  |true=>
   cases d:s8 i s with
   |false=>rw[h1,b,d]at a;exact c _ _ _ _ _ a
   |true=>
    rw[h1,b,d]at a;grind[Nat.eq_of_beq_eq_true,Ty,Tz]
def K9(P:Program):List (Nat×aW)->Prop
 |[]=>True
 |p::l=>a6 P p.1 p.2/\K9 P l
def Gr(P:Program):List (List (Nat×aW))->Prop
 |[]=>True
 |l::m=>K9 P l/\Gr P m
def C2(f:Nat):List (Nat×aW)->Option aW
 |[]=>none
 |p::l=>cond (Nat.beq f p.1) (some p.2) (C2 f l)
def Gs(f:Nat):Nat->List (List (Nat×aW))->Option aW
 |_,[]=>none
 |0,l::_=>C2 f l
 |n+1,_::m=>Gs f n m
theorem TA{P:Program}{f:Nat}{a:aW}:∀{l:List (Nat×aW)},K9 P l->C2 f l=some a->a6 P f a
 |[],_,h=>by grind[C2]
 |p::l,bn,h=>by
  simp[C2]at h;cases au:Nat.beq f p.1 with
  |true=>
   rw[au]at h;simp at h;rw[<-h,aCG au];exact bn.1
  |false=>rw[au]at h;exact TA bn.2 h
theorem TB{P:Program}{f:Nat}{a:aW}:∀{n:Nat} {m:List (List (Nat×aW))},Gr P m->Gs f n m=some a->a6 P f a
 |_,[],_,h=>by grind[Gs]
 |0,l::m,bn,h=>TA bn.1 h
 |n+1,l::m,bn,h=>TB (n:=n) (m:=m) bn.2 h
def TC(m:List (List (Nat×aW)))(f:Nat):Option aW:=Gs f (f/16) m
theorem alV{P:Program}{m:List (List (Nat×aW))}(h:Gr P m):wk P (TC m):=λ_ _ a=>TB h a
theorem uT{P:Program}{gl:Nat->List D}{tab:Nat->Option aW}{ext:Nat->List ah->aY->Out}{a:Nat}(c:hP P gl ext)(b:wk P tab)(n:Nat):hP P gl (rK ext tab gl a n):=by
 grind[Tx,alp]
def aCZ:=@Go.run_underlying
def aDZ:=@Go.Lib.cell_of_heap
def aF':=@Go.Lib.byteCells_length
def aFw:=@Go.Proofs.Body.n169_ntmps
def aGa:=@Go.Proofs.Any.unsafeString_none
theorem aB9(h:p:=by have o0:w.drew.heap[g]?=some (.cells cur (ρ.t 5) fz):=aF;grind[World.shape?]):p:=h
open Go.Shelf Go.RowKit Go.Proofs
section
variable {P:Program}{w:World}
theorem alW(t u ty e:TypeId)(i:TypeInfo)(f:P.underlying t=some (.slice e))(j:P.underlying u=some .string)(hi:P.info? e=some i)(q:i.zero=some (.int .u8 0))
  (z:i.size=1) (o:i.bytes=1) (v:Value) (n:Nat) (xs:List Value) (m:w.ownsRowF 0 e 1 v n xs) (s:ByteArray) (B:n+s.size<=maxLen) (C:n+s.size<=140737488355328):
  ∃d w',(Builtin.append_ #[t,u] ty #[v,.string s]).run P w=.ok d w'/\w'.ownsRowF 0 e 1 d (n+s.size) (xs++Lib.strCells s)/\w.grownBy w' v.ownBlock/\(∀g,d.ownBlock=some g->v.ownBlock=some g\/w.heap.size<=g)/\
   ∀g b fz,v.ownBlock=some g->w.heap[g]?=some (.cells b e fz)->∃A L,w'.heap[g]?=some (.cells A e L)/\A.size=b.size:=by
 obtain⟨d,w',h,F,H,-⟩:=Lib.run_append_own_stringF w 0 t u ty e i f j hi q z o v n xs m s B C (aCu _);refine⟨d,w',h,F,H,?_⟩;rcases m.2 with⟨rfl,rfl⟩|⟨g,cap,b,fz,rfl,_,p,Y,Q,S,W,U⟩
 .obtain⟨v2,V,x,k2,-,-⟩:=Lib.run_append_own_stringF w w.heap.size t u ty e i f j hi q z o (.slice none 0 0) 0 xs ⟨m.1,.inl ⟨rfl,rfl⟩⟩ s B C (aCw _);rw[h]at x;injection x with x R
  refine⟨λk y=> ?_,λg b fz l _=>by grind[Value.ownBlock]⟩;rcases k2.2 with⟨rfl,_⟩|⟨Z,_,_,_,rfl,au,_⟩
  all_goals grind[Value.ownBlock]
 .by_cases N:n+s.size<=cap
  .have a:=Lib.run_append_room_stringF (P:=P) w t u ty e i f j hi z g n cap b fz p az6 s N az6;rw[h]at a;injection a with a r
   subst a;refine⟨λk y=>.inl y,λE G M l c=> ?_⟩;simp[Value.ownBlock,aCz]at l;subst l;rw[p]at c;simp at c;obtain⟨rfl,_,rfl⟩:=c;subst r;refine⟨_,_,setRow_heap w g b _ e _ p,?_⟩;grind[Lib.strCells_length]
  .have K:=m.cells (g:=g) rfl;have a:=Lib.run_append_grow_string (P:=P) w t u ty e i (.int .u8 0) f j hi q ⟨g,0,none⟩ n cap xs az9 K s az6 az6 (by rw[o];exact growslice_fits az6 az6);rw[h]at a;injection a with a r
   subst a;refine⟨λk y=> ?_,λE G M l c=> ?_⟩
   .grind[Value.ownBlock]
   .subst r;have J:=(aC'.1 c).1;exact⟨_,_,(Lib.alloc_old w.drew _ E J).trans c,rfl⟩
def La(v:Value)(e:TypeId)(w w':World):Prop:=∀g b c,v.ownBlock=some g->w.heap[g]?=some (.cells b e c)->∃a d,w'.heap[g]?=some (.cells a e d)/\a.size=b.size
theorem al0{ops:Array Oper}{rest:List Oper}{o:Oper}{a:Act}{Q:Exit->Act->World->Prop}(F:o.guard=none)(c x:Operand)(t u:TypeId)
  (B:o.op=.call {callee:=.builtin .append,args:= #[c,x],argTypes:= #[t,u]})
  (e:TypeId) (i:TypeInfo) (l:P.underlying t=some (.slice e)) (E:P.underlying u=some .string) (hi:P.info? e=some i) (m:i.zero=some (.int .u8 0)) (H:i.size=1) (d:i.bytes=1)
  (v:Value) (n:Nat) (xs:List Value) (C:a.eval c=v) (G:w.ownsRowF 0 e 1 v n xs) (s:ByteArray) (r:a.eval x=.string s) (f:n+s.size<=maxLen) (j:n+s.size<=140737488355328)
  (h:∀b w',w'.ownsRowF 0 e 1 b (n+s.size) (xs++Lib.strCells s)->w.grownBy w' v.ownBlock->(∀g,b.ownBlock=some g->v.ownBlock=some g\/w.heap.size<=g)->La v e w w'->
   wpList P ops Q rest (a.put o.dst b) w'):wpList P ops Q (o::rest) a w:=by
 refine wpList_plain F λK y=> ?_;obtain⟨b,w',k,q,z,p,A⟩:=alW (P:=P) (w:=w) t u o.type e i l E hi m H d v n xs G s f j;unfold Oper.wp execOp;simp[B,resolve,invoke,builtin,aCD,aCK,aCH,aEj,aDe,aD2,C,r,k];exact y _ _ (h b w' q z p A)
end
def qj(t e b:Nat)(p v:Value)(a:List Value)(w:World):Prop:=
 w.heap[b]?=some (.cells #[p,v] t (0,0))/\(p=.pointer none\/p=.pointer (some ⟨b,0,none⟩))/\w.ownsRowF 0 e 1 v a.length a/\v.ownBlock≠some b
structure C5(b:Nat)(v:Value)(w w':World):Prop where
 os:w'.os=w.os
 out:w'.output=w.output
 size:w.heap.size<=w'.heap.size
 block:∀k,k<w.heap.size->k≠b->v.ownBlock≠some k->w'.heap[k]?=w.heap[k]?
section
variable {P:Program}{ρ:Ren}{w:World}
theorem al1(L:Lays.n240 P ρ)(X:Builder.X72 P ρ){b:Nat}{p v:Value}{c:List Value}(h:qj (ρ.t 72) (ρ.t 5) b p v c w):
  Calls P (ρ.f 240) #[.pointer (some ⟨b,0,none⟩)] w λe w'=>e=.returned (.tuple #[])/\qj (ρ.t 72) (ρ.t 5) b (.pointer (some ⟨b,0,none⟩)) v c w'/\w'.os=w.os/\w'.output=w.output/\w'.heap.size=w.heap.size/\∀k,k≠b->w'.heap[k]?=w.heap[k]?:=by
 obtain⟨g,i,f,d⟩:=h;have a:Lib.BuilderAtF (ρ.t 72) (ρ.t 5) 0 b p c w:=⟨aCu _,v,g,f,d⟩;rcases i with rfl|rfl
 .refine(Any.Builder_copyCheck_fresh L X b w a.cell0 a.shape a.frozen0).mono ?_;rintro e w' ⟨rfl,rfl⟩;obtain⟨_,q,j,l,m⟩:=a.used (.pointer (some ⟨b,0,none⟩));have n:q=v:=by
   grind[World.setCell]
  subst n;exact⟨rfl,⟨j,.inr rfl,l,m⟩,rfl,rfl,az7,λk o=>Below.heap_setCell _ _ _ _ (λe=>o az6)⟩
 .refine(Any.Builder_copyCheck_used L X b w a.cell0).mono ?_;rintro e w' ⟨rfl,rfl⟩;exact⟨rfl,⟨g,.inr rfl,f,d⟩,rfl,rfl,rfl,λ_ _=>rfl⟩
theorem al2(L:Lays.n166 P ρ)(X:Builder.Extra P ρ){b:Nat}{p v:Value}{f:List Value}(s:ByteArray)(h:qj (ρ.t 72) (ρ.t 5) b p v f w)(aB:f.length+s.size<=140737488355328):
  Calls P (ρ.f 166) #[.pointer (some ⟨b,0,none⟩),.string s] w λe w'=>e=.returned (.tuple #[.int .i64 s.size,.nilIface])/\C5 b v w w'/\
   ∃k,qj (ρ.t 72) (ρ.t 5) b (.pointer (some ⟨b,0,none⟩)) k (f++Lib.strCells s) w'/\(∀g,k.ownBlock=some g->v.ownBlock=some g\/w.heap.size<=g)/\
   La v (ρ.t 5) w w':=by
 obtain⟨M,K,Q,R,J⟩:=info_parts X.infoByte;have aE:=L.mixed;have aN:=L.t72;have ao:=L.a72;have a':=L.z72;have aS:=L.v72;have V:=aCZ L.t72;have aM:=L.t70;have ai:=L.a70;have aZ:=L.z70;have aR:=L.v70;have W:=aCZ L.t70;have aJ:=L.t37;have ad:=L.a37;have aV:=L.z37;have aQ:=L.v37;have Y:=aCZ L.t37;have t3:=L.t3;have a3:=L.a3;have z3:=L.z3;have v3:=L.v3;have fa:=aCZ L.t3;have t9:=L.t9;have a9:=L.a9;have z9:=L.z9;have v9:=L.v9;have lC:=aCZ L.t9;have t4:=L.t4;have a4:=L.a4;have z4:=L.z4;have v4:=L.v4;have fG:=aCZ L.t4;have aI:=L.t164;have Z:=L.a164;have aU:=L.z164;have aP:=L.v164;have aq:=aCZ L.t164;have t5:=X.t5;have a5:=X.a5;have z5:=X.z5;have v5:=X.v5;have g':=aCZ X.t5;have ar:∀o w,(callFunc (ρ.f 240) o).run P w=.ok (.enter (ρ.f 240) o) w:=enters_of L.f240 az5 rfl;go_enter L.f166,Body.n166_ntmps ρ;go_wp2_with (refine(al1 {L with} X.toX72 h).mono ?_);rintro e m ⟨rfl,⟨u,_,N,F⟩,B,C,cj,G⟩;have c0:m.cell? ⟨b,0,none⟩=some (.pointer (some ⟨b,0,none⟩)):=by rw[aDZ u];rfl
 have c1:m.cell? ⟨b,1,none⟩=some v:=by rw[aDZ u];rfl
 go_wp2_with (refine al0 rfl _ _ (ρ.t 37) (ρ.t 9) rfl (ρ.t 5) M L.t37 L.t9 K Q R J _ _ _ rfl N s rfl ?c3 ?c4 ?_)
 case c3=>grind[maxLen]
 case c4=>omega
 intro k a n l jF z;have ay:b<m.heap.size:=az9;have i:a.heap[b]?=some (.cells #[.pointer (some ⟨b,0,none⟩),v] (ρ.t 72) (0,0)):=by
  grind[World.grownBy.block]
 have d0:a.cell? ⟨b,0,none⟩=some (.pointer (some ⟨b,0,none⟩)):=by rw[aDZ i];rfl
 have d1:a.cell? ⟨b,1,none⟩=some v:=by rw[aDZ i];rfl
 have f1:=Lib.frozen_of_heap i 1;obtain⟨d,j,cap,rfl⟩:∃d j cap,k=.slice d j cap:=by
  rcases n.2 with⟨c,_⟩|⟨g,cap,r,t,c,_⟩
  .simp_all
  simp_all
 have H:=Lib.BuilderAtF.put (T:=(ρ.t 72)) (e:=(ρ.t 5)) (aCu b) i (bs':=f++Lib.strCells s) (by simpa [Lib.strCells_length]using n) X.neB5;go_wp2;go_ret2;refine⟨rfl,⟨?_,?_,?_,?_⟩,.slice d j cap,?_,?_,?_⟩
 .show a.os=w.os;rw[l.os,B]
 .show a.output=w.output;rw[l.output,C]
 .have:=l.size;simp_all
 .grind[Below.heap_setCell,World.grownBy.block]
 .obtain⟨_,S,x,q,E⟩:=H;have c:S=.slice d j cap:=by
   grind[World.setCell]
  subst c;exact⟨x,.inr rfl,q,E⟩
 .omega
 .intro g r t c A;have y:g≠b:=λe=>F az8;obtain⟨U,p0,x,q⟩:=z g r t c ((G g y).trans A);grind[Below.heap_setCell]
def Lc(v:Value)(n:Nat)(w w':World):Prop:=
 w'=w.drew\/(∃a e,w'=w.drew.alloc (.view a e))\/∃g c,v=.slice (some ⟨g,0,none⟩) n c/\n≠0/\w'=w.drew.freeze ⟨g,0,none⟩ n
theorem al5(L:Lays.n169 P ρ)(X:Builder.Extra P ρ){b:Nat}{p v:Value}{l:List UInt8}(h:qj (ρ.t 72) (ρ.t 5) b p v (Lib.byteCells l) w)(d:l≠[]):
  Calls P (ρ.f 169) #[.pointer (some ⟨b,0,none⟩)] w λe w'=>e=.returned (.string ⟨l.toArray⟩)/\Lc v l.length w w':=by
 obtain⟨f,_,c,M⟩:=h;have i:l.length≠0:=az8;rw[aF']at c;obtain⟨g,a,cur,fz,rfl,aF,V,o,H,R,J⟩:∃g a cur fz,v=.slice (some ⟨g,0,none⟩) l.length a/\w.heap[g]?=some (.cells cur (ρ.t 5) fz)/\fz.2<=l.length*1/\l.length<=a/\a<=maxLen/\cur.size=a*1/\cur.toList.take (l.length*1)=Lib.byteCells l:=by
  rcases c.2 with⟨_,aM⟩|⟨g,a,cur,fz,hv,_,r⟩
  all_goals grind
 have K:w.drew.cell? ⟨b,1,none⟩=some (.slice (some ⟨g,0,none⟩) l.length a):=by
  have:w.drew.heap[b]?=some (.cells #[p,.slice (some ⟨g,0,none⟩) l.length a] (ρ.t 72) (0,0)):=f;rw[aDZ this];rfl
 have q:(Builtin.unsafeSliceData_ #[(ρ.t 37)] (ρ.t 127) #[.slice (some ⟨g,0,none⟩) l.length a]).run P w.drew=.ok (.pointer (some ⟨g,0,none⟩)) w.drew:=
  Lib.run_unsafeSliceData_row _ _ _ _ _ _ az6
 have s:=by
  refine Lib.run_unsafeString_row w.drew (ρ.t 127) (ρ.t 3) (ρ.t 9) (ρ.t 5) L.t127 X.cellsByte g cur.size aB9 l d az6 (by grind[maxLen]) ?_;intro j x G;have:=c.cells (g:=g) rfl j (.int .u8 x.toNat) (by grind[Lib.byteCells]);simp_all
 have U:=L.mixed;have ao:=L.t72;have E:=L.a72;have aN:=L.z72;have aB:=L.v72;have k:=aCZ L.t72;have ad:=L.t70;have C:=L.a70;have aJ:=L.z70;have ay:=L.v70;have m:=aCZ L.t70;have Z:=L.t37;have A:=L.a37;have aI:=L.z37;have ar:=L.v37;have n:=aCZ L.t37;have W:=L.t127;have y:=L.a127;have aE:=L.z127;have aq:=L.v127;have u:=aCZ L.t127;have Y:=L.t3;have z:=L.a3;have z3:=L.z3;have v3:=L.v3;have N:=aCZ L.t3;have t9:=L.t9;have F:=L.a9;have z9:=L.z9;have v9:=L.v9;have S:=aCZ L.t9;have t5:=X.t5;have B:=X.a5;have z5:=X.z5;have v5:=X.v5;have Q:=aCZ X.t5;go_enter L.f169,aFw ρ;go_wp2;go_region_o;all_goals (go_wp2;go_ret;exact⟨rfl,.inr (.inr ⟨g,a,rfl,i,rfl⟩)⟩)
theorem al6(L:Lays.n169 P ρ)(X:Builder.Extra P ρ){b:Nat}{p:Value}(a:w.heap[b]?=some (.cells #[p,.slice none 0 0] (ρ.t 72) (0,0))):
  Calls P (ρ.f 169) #[.pointer (some ⟨b,0,none⟩)] w λe w'=>e=.returned (.string ⟨#[]⟩)/\w'=w.drew:=by
 have h:=aGa L X;have r:w.drew.cell? ⟨b,1,none⟩=some (.slice none 0 0):=by
  have:w.drew.heap[b]?=some (.cells #[p,.slice none 0 0] (ρ.t 72) (0,0)):=a;rw[aDZ this];rfl
 have g:(Builtin.unsafeSliceData_ #[(ρ.t 37)] (ρ.t 127) #[.slice none 0 0]).run P w.drew=.ok (.pointer none) w.drew:=rfl;have v:=L.mixed;have C:=L.t72;have o:=L.a72;have W:=L.z72;have M:=L.v72;have c:=aCZ L.t72;have B:=L.t70;have n:=L.a70;have V:=L.z70;have K:=L.v70;have d:=aCZ L.t70;have z:=L.t37;have l:=L.a37;have S:=L.z37;have H:=L.v37;have f:=aCZ L.t37;have x:=L.t127;have j:=L.a127;have Q:=L.z127;have F:=L.v127;have i:=aCZ L.t127;have y:=L.t3;have k:=L.a3;have R:=L.z3;have G:=L.v3;have s:=aCZ L.t3;have E:=L.t9;have q:=L.a9;have Y:=L.z9;have N:=L.v9;have u:=aCZ L.t9;have A:=X.t5;have m:=X.a5;have U:=X.z5;have J:=X.v5;have t:=aCZ X.t5;go_enter L.f169,aFw ρ;go_wp2;go_region_o;all_goals (go_wp2;go_ret;exact⟨rfl,rfl⟩)
theorem al7(L:Lays.n169 P ρ)(X:Builder.Extra P ρ){b g:Nat}{p:Value}{cur:Array Value}{fz:Nat×Nat}(c:w.heap[b]?=some (.cells #[p,.slice (some ⟨g,0,none⟩) 0 0] (ρ.t 72) (0,0)))(aF:w.heap[g]?=some (.cells cur (ρ.t 5) fz)):
  Calls P (ρ.f 169) #[.pointer (some ⟨b,0,none⟩)] w λe w'=>e=.returned (.string ⟨#[]⟩)/\∃a e,w'=w.drew.alloc (.view a e):=by
 have l:=aGa L X;have d:b<w.heap.size:=az9;have f:w.drew.cell? ⟨b,1,none⟩=some (.slice (some ⟨g,0,none⟩) 0 0):=by
  have:w.drew.heap[b]?=some (.cells #[p,.slice (some ⟨g,0,none⟩) 0 0] (ρ.t 72) (0,0)):=c;rw[aDZ this];rfl
 have k:(Builtin.unsafeSliceData_ #[(ρ.t 37)] (ρ.t 127) #[.slice (some ⟨g,0,none⟩) 0 0]).run P w.drew=.ok (.pointer (some ⟨w.drew.heap.size,0,none⟩)) (w.drew.alloc (.view ⟨g,0,none⟩ (ρ.t 5))):=
  Lib.run_unsafeSliceData_zero w.drew _ _ (ρ.t 5) L.t127 ⟨g,0,none⟩ 0 ((ρ.t 5),cur.size) aB9
 have c2:(w.drew.alloc (.view ⟨g,0,none⟩ (ρ.t 5))).cell? ⟨b,1,none⟩=some (.slice (some ⟨g,0,none⟩) 0 0):=by
  have:(w.drew.alloc (.view ⟨g,0,none⟩ (ρ.t 5))).heap[b]?=_:=(Lib.alloc_old w.drew _ b d).trans c;rw[aDZ this];rfl
 have x:=c2;have c0:w.cell? ⟨b,1,none⟩=some (.slice (some ⟨g,0,none⟩) 0 0):=f;have B:=L.mixed;have J:=L.t72;have u:=L.a72;have ai:=L.z72;have U:=L.v72;have h:=aCZ L.t72;have H:=L.t70;have s:=L.a70;have ad:=L.z70;have S:=L.v70;have i:=aCZ L.t70;have F:=L.t37;have q:=L.a37;have Z:=L.z37;have Q:=L.v37;have j:=aCZ L.t37;have C:=L.t127;have n:=L.a127;have W:=L.z127;have M:=L.v127;have m:=aCZ L.t127;have E:=L.t3;have o:=L.a3;have Y:=L.z3;have N:=L.v3;have y:=aCZ L.t3;have K:=L.t9;have v:=L.a9;have z9:=L.z9;have V:=L.v9;have A:=aCZ L.t9;have G:=X.t5;have r:=X.a5;have z5:=X.z5;have R:=X.v5;have z:=aCZ X.t5;go_enter L.f169,aFw ρ;go_wp2;go_region_o;all_goals (go_wp2;go_ret;exact⟨rfl,_,_,rfl⟩)
theorem al8(L:Lays.n169 P ρ)(X:Builder.Extra P ρ){b g cap:Nat}{p:Value}(c:cap≠0)(a:w.heap[b]?=some (.cells #[p,.slice (some ⟨g,0,none⟩) 0 cap] (ρ.t 72) (0,0))):
  Calls P (ρ.f 169) #[.pointer (some ⟨b,0,none⟩)] w λe w'=>e=.returned (.string ⟨#[]⟩)/\w'=w.drew:=by
 have j:=aGa L X;have t:w.drew.cell? ⟨b,1,none⟩=some (.slice (some ⟨g,0,none⟩) 0 cap):=by
  have:w.drew.heap[b]?=some (.cells #[p,.slice (some ⟨g,0,none⟩) 0 cap] (ρ.t 72) (0,0)):=a;rw[aDZ this];rfl
 have i:(Builtin.unsafeSliceData_ #[(ρ.t 37)] (ρ.t 127) #[.slice (some ⟨g,0,none⟩) 0 cap]).run P w.drew=.ok (.pointer (some ⟨g,0,none⟩)) w.drew:=
  Lib.run_unsafeSliceData_row _ _ _ _ _ _ c
 have y:=L.mixed;have F:=L.t72;have r:=L.a72;have Z:=L.z72;have Q:=L.v72;have d:=aCZ L.t72;have E:=L.t70;have q:=L.a70;have Y:=L.z70;have N:=L.v70;have f:=aCZ L.t70;have B:=L.t37;have n:=L.a37;have V:=L.z37;have K:=L.v37;have h:=aCZ L.t37;have z:=L.t127;have l:=L.a127;have S:=L.z127;have H:=L.v127;have k:=aCZ L.t127;have A:=L.t3;have m:=L.a3;have U:=L.z3;have J:=L.v3;have u:=aCZ L.t3;have G:=L.t9;have s:=L.a9;have z9:=L.z9;have R:=L.v9;have x:=aCZ L.t9;have C:=X.t5;have o:=X.a5;have W:=X.z5;have M:=X.v5;have v:=aCZ X.t5;go_enter L.f169,aFw ρ;go_wp2;go_region_o;all_goals (go_wp2;go_ret;exact⟨rfl,rfl⟩)
theorem al9(L:Lays.n169 P ρ)(X:Builder.Extra P ρ){b:Nat}{p v:Value}{l:List UInt8}(h:qj (ρ.t 72) (ρ.t 5) b p v (Lib.byteCells l) w):
  Calls P (ρ.f 169) #[.pointer (some ⟨b,0,none⟩)] w λe w'=>e=.returned (.string ⟨l.toArray⟩)/\Lc v l.length w w':=by
 cases l with
 |cons x r=>grind[al5]
 |nil=>
  obtain⟨a,_,i,k⟩:=h;rcases i.2 with⟨rfl,_⟩|⟨g,cap,cur,m,rfl,j,d,_,_,_,_⟩
  .refine(al6 L X a).mono ?_;rintro e w' ⟨rfl,rfl⟩;exact⟨rfl,.inl rfl⟩
  .by_cases c:cap=0
   .subst c;refine(al7 L X a d).mono ?_;rintro e w' ⟨rfl,f⟩;exact⟨rfl,.inr (.inl f)⟩
   .refine(al8 L X c a).mono ?_;rintro e w' ⟨rfl,rfl⟩;exact⟨rfl,.inl rfl⟩
end
open Go.RowKit
section
variable {P:Program}{gl:Nat->List D}{w w':World}{G:bL}{ρ:List Nat}
theorem Lh{b off:Nat}{v:Value}(h:w.cell? ⟨b,off,none⟩=some v):b<w.heap.size:=aA6
theorem TE(h:Below w.heap.size w w'):de w G w' G:=by
 refine⟨λb k v e=>⟨?_,e.2⟩,λb o i=> ?_,λb n j=> ?_⟩
 .rw[aE9 (h.block b (Lh e.1))];exact e.1
 .obtain⟨g,d,a⟩:=i;exact⟨g,d,(h.block b (aC'.1 a).1).trans a⟩
 .obtain⟨c,E,f,a,d⟩:=j;exact⟨c,E,f,(h.block b (aC'.1 a).1).trans a,d⟩
theorem TF(c:∀b L n,G b=some (L,n)->b<w.heap.size)(h:Below w.heap.size w w')(L:Loc):e5 L L w G w' G:=λb d a=>⟨h.block b (c _ _ _ a),a⟩
theorem ama(a:∀b L n,G b=some (L,n)->b<w.heap.size)(h:Below w.heap.size w w'):Good w G w' G where
 size:=h.size
 iN b au _:=⟨h.block b au,rfl⟩
 new _b d au c:=absurd (a _ _ _ c) (aDT.2 au)
 old _ _ _ h:=h
 keep:=TE h
 os:=h.os
 out:=h.output
theorem wo{f:Nat}{args:List ah}{s:aY}{r:ah}(o:gq P f)
  (h:∀(w:World) (G:bL) (ρ:List Nat) (vs:List Value),gK w G ρ s->pU gl w G->cu w G ρ vs args->∃R:Ending->World->Prop,Calls P f ⟨vs⟩ w R/\∀e w',R e w'->∃v,e=.returned v/\(∀w':World,dp w' G ρ .res v r)/\Below w.heap.size w w'):
  bD P gl f args s r s:=by
 refine⟨o,λw G ρ vs d k c q=> ?_⟩;obtain⟨R,l,m⟩:=h w G ρ vs d k q;refine l.mono ?_;intro e w' p;obtain⟨v,rfl,g,a⟩:=m e w' p;exact⟨v,G,ρ,rfl,g w',d.b0 (TE a) (λi=>TF c a _) (λi j=>TF c a _),λb L n h=>aC2 (c b L n h) a.size,ama c a,λ_ _ h=>h⟩
def s9(b:List UInt8):List (List UInt8)->List UInt8
 |[]=>[]
 |a::l=>a++(l.flatMap λx=>b++x)
theorem TG(b:List UInt8)(l:List (List UInt8)):Lib.join l b=s9 b l:=by
 cases l with
 |nil=>rfl
 |cons a l=>
  grind[Lib.join_cons,s9,Lib.joinTail]
def fx:List D->Option (List (List UInt8))
 |[]=>some []
 |.str s::l=>match fx l with
  |some r=>some (s::r)
  |none=>none
 |_::_=>none
theorem TH:∀{l:List D} {a:List (List UInt8)} {vs:List Value},fx l=some a->cw w G vs l->∃xs:List ByteArray,vs=xs.map .string/\xs.map (·.data.toList)=a
 |[],a,vs,h,b=>by
  simp[fx,aCz]at h;subst h;cases b;simp
 |d::l,a,vs,h,b=>by
  cases d<;>simp[fx,reduceCtorEq]at h;split at h
  .rename_i r e;simp at h;subst h;cases b with
   |cons v _ vs _ h1 c=>
    obtain⟨xs,rfl,rfl⟩:=TH e c;cases h1 with
    |str s _ he=>exact⟨s::xs,rfl,by rw[aDe,he]⟩
  .simp at h
theorem Li:∀{l:List D} {a:List (List UInt8)},fx l=some a->l.flatMap D.cells=l/\l.length=a.length
 |[],a,h=>by grind[fx]
 |d::l,a,h=>by
  cases d<;>simp[fx,reduceCtorEq]at h;split at h
  .rename_i r e;simp at h;subst h;obtain⟨c,b⟩:=Li e;exact⟨by rw[aDO,c];rfl,by simp[b]⟩
  .simp at h
def Gy(s:aY)(v:ah):Option (List (List UInt8)):=match v with
 |.aP i off len cap 1=>match s.getD i .dead with
  |.box cs=>cond (Nat.ble len cap&&Nat.ble (off+len) cs.length) (match ja ((cs.drop off).take len)with
   |some l=>fx l
   |none=>none) none
  |_=>none
 |.d (.list 1 l)=>fx l
 |.own _ []=>some []
 |_=>none
structure Lj(P:Program)(f:Nat):Prop where
 none:∀(a:Option Addr) (c:Nat) (sep:ByteArray) (w:World),Calls P f #[.slice a 0 c,.string sep] w λe w'=>e=.returned (.string ⟨#[]⟩)/\w'=w
 some:∀(lO o c:Nat) (xs:List ByteArray) (sep:ByteArray) (w:World),(∀(j:Nat) x,xs[j]?=some x->w.cell? ⟨lO,o+j,Option.none⟩=some (.string x))->lO<w.heap.size->xs.length<=140737488355328->xs.length<=c->
  (Lib.join (xs.map (·.data.toList)) sep.data.toList).length<=140737488355328->Calls P f #[.slice (Option.some ⟨lO,o,Option.none⟩) xs.length c,.string sep] w λe w'=>e=.returned (.string ⟨(Lib.join (xs.map (·.data.toList)) sep.data.toList).toArray⟩)/\Below w.heap.size w w'
theorem TI{b off:Nat}{vs:List Value}(h:jc w G b off vs){j:Nat}{v:Value}(a:vs[j]?=some v):w.cell? ⟨b,off+j,none⟩=some v:=(h j v a).1
theorem Gz{f:Nat}{x:ah}{t:List UInt8}{o:List (List UInt8)}{s:aY}(bh:gq P f)(J:Lj P f)(m:Gy s x=some o)(aq:o.length<=140737488355328)(ar:(s9 t o).length<=140737488355328):
  bD P gl f [x,.d (.str t)] s (.d (.str (s9 t o))) s:=by
 refine wo bh λw G ρ vs cf aF H=> ?_;have u:∀{a:Option Addr} {n c:Nat} {us:List Value} {p:ByteArray} {l:List D},p.data.toList=t->fx l=some o->cw w G us l->n=l.length->n<=c->(0<n->∃b g,a=some ⟨b,g,none⟩/\∀(j:Nat) v,us[j]?=some v->w.cell? ⟨b,g+j,none⟩=some v)->
   ∃R:Ending->World->Prop,Calls P f ⟨[.slice a n c,.string p]⟩ w R/\∀e w',R e w'->∃v,e=.returned v/\(∀w':World,dp w' G ρ .res v (.d (.str (s9 t o))))/\Below w.heap.size w w':=by
  intro a n c us p l r B M hZ az K;obtain⟨xs,rfl,jg⟩:=TH B M;have E:=(Li B).2;have p8:xs.length=n:=az9;cases n with
  |zero=>
   refine⟨_,J.none a c p w,?_⟩;rintro e w' ⟨rfl,rfl⟩;have:o=[]:=az9;subst this;exact⟨_,rfl,λ_=>.d _ _ (.str _ _ rfl),Below.refl _ _⟩
  |succ n=>
   obtain⟨b,g,rfl,iT⟩:=K (Nat.succ_pos n);have C:∀(j:Nat) x,xs[j]?=some x->w.cell? ⟨b,g+j,none⟩=some (.string x):=λj x y=>iT j _ az8;have L:=by
    have Z:xs[0]?=some (xs[0]' az6):=aCB _;exact Lh (C 0 _ Z)
   have A:=J.some b g c xs p w C L az6 az6 (by grind[TG]);rw[p8]at A;refine⟨_,A,?_⟩;rintro e w' ⟨rfl,Y⟩;refine⟨_,rfl,λ_=>.d _ _ (.str _ _ ?_),Y⟩;grind[TG]
 cases H with
 |cons v1 _ nM _ h1 U=>cases U with
  |cons v2 _ nP _ z S=>
   cases S;cases z with
   |d _ _ z=>cases z with
    |str p _ r=>
     unfold Gy at m;split at m
     .rename_i i g len cap;cases h1 with
      |aP _ _ _ _ et _ b cS yb aM=>
       split at m
       .rename_i cs gX;cases q:(Nat.ble len cap&&Nat.ble (g+len) cs.length)with
        |false=>grind
        |true=>
         rw[q]at m;simp at m;rw[aCx]at q;have W:=aCM q.1;have q:=aCM q.2;split at m
         .rename_i l E;have Q:ky w G ρ i b (.box cs):=by grind[gK.at]
          obtain⟨c,ad,fz,hj,eh,vK,Pv,ao⟩:=Q;have bk:(c.toList.drop g).take len=(c.toList.drop g).take len:=rfl;have uf:((c.toList.drop g).take len).length=len:=az9;have kC:cw w G ((c.toList.drop g).take len) l:=by
           refine zF (ρ:=ρ) (LC:=λj=>.dk i (g+j)) (k:=0) (xs:=(cs.drop g).take len) az9 (λj v x H m=> ?_) E;grind
          refine u (us:=(c.toList.drop g).take len) r m kC (by grind[cw.length]) (Nat.le_trans W yb) (λ_=>⟨b,g,rfl,λj v y=> ?_⟩);grind[World.cell?]
         grind
       grind
     .rename_i l;cases h1 with
      |d _ _ h1=>cases h1 with
       |kZ a c _=>exact u r m .nil rfl (aCu _) (λh=>absurd h (Nat.lt_irrefl 0))
       |list b g n c _ _ us V N aX bR F=>
        rw[(Li m).1]at F;exact u r m F V N λ_=>⟨b,g,rfl,λj v y=>TI bR y⟩
     .cases h1 with
      |nil a sz=>exact u (l:=[]) r m .nil rfl (aCu _) (λh=>absurd h (Nat.lt_irrefl 0))
     grind
def C6:Nat->Nat->List UInt8->List UInt8
 |0,_,acc=>acc
 |f+1,n,acc=>cond (Nat.blt n 10) (UInt8.ofNat (48+n)::acc) (C6 f (n/10) (UInt8.ofNat (48+n%10)::acc))
theorem TL:∀(f n:Nat) (acc:List UInt8),n<10^f->C6 f n acc=cond (Nat.beq f 0) acc (Lib.decDigits n++acc)
 |0,n,acc,_=>rfl
 |f+1,n,acc,h=>by
  simp only[C6];cases au:Nat.blt n 10 with
  |true=>
   have a:n<10:=az8;rw[Lib.decDigits,dif_pos a];rfl
  |false=>
   have a:¬n<10:=λb=>Bool.noConfusion (au.symm.trans (show Nat.blt n 10=true by grind[Nat.blt_eq]));rw[aDy,TL f (n/10) _ az6];conv=>rhs;rw[Lib.decDigits,dif_neg a]
   cases f with
   |zero=>omega
   |succ f=>simp[Nat.beq]
structure Ll(P:Program)(f:Nat):Prop where
 small:∀(i:Nat),i<100->∀w:World,Calls P f #[.int .i64 i] w λe w'=>e=.returned (.string ⟨(Lib.decDigits i).toArray⟩)/\w'=w
theorem amc{f n:Nat}{s:aY}(c:gq P f)(J:Ll P f)(b:n<100):bD P gl f [.d (.int .i64 n)] s (.d (.str (C6 2 n []))) s:=by
 refine wo c λw G ρ k i h g=> ?_;cases g with
 |cons v1 _ j _ h1 a=>
  cases a;cases h1 with
  |d _ _ h1=>
   cases h1;refine⟨_,J.small n b w,?_⟩;rintro e w' ⟨rfl,rfl⟩;refine⟨_,rfl,λ_=>.d _ _ (.str _ _ ?_),Below.refl _ _⟩;grind[TL,Nat.beq]
structure Lm(P:Program)(f:Nat):Prop where
 ok:∀(s:ByteArray),s.size<=9223372036854775806->∀v:Int,Lib.atoiAll s.data.toList=.ok v->∀w:World,Calls P f #[.string s] w λe w'=>e=.returned (.tuple #[.int .i64 v,.nilIface])/\Below w.heap.size w w'
theorem TM{f:Nat}{l:List UInt8}{v:Int}{s:aY}(c:gq P f)(J:Lm P f)(j:l.length<=9223372036854775806)(g:Lib.atoiAll l=.ok v):
  bD P gl f [.d (.str l)] s (.tuple [.d (.int .i64 v),.d .iK]) s:=by
 refine wo c λw G ρ o m k h=> ?_;cases h with
 |cons v1 _ n _ h1 a=>
  cases a;cases h1 with
  |d _ _ h1=>cases h1 with
   |str sp _ i=>
    subst i;refine⟨_,J.ok sp az8 v g w,?_⟩;rintro e w' ⟨rfl,b⟩;exact⟨_,rfl,λ_=>.tuple [.int .i64 v,.nilIface] _ (.cons _ _ _ _ (.d _ _ (.int _ _)) (.cons _ _ _ _ (.d _ _ .iK) .nil)),b⟩
structure AtoiErr(P:Program)(gl:Nat->List D)(f qk mB:Nat):Prop where
 amd:gl qk=[.ix]
 iJ:gl mB=[.ix]
 range:∀(s:ByteArray),s.size<=281474976710656->Lib.atoiAll s.data.toList=.range->∀(aO:Value) (w:World),w.cell? ⟨qk,0,none⟩=some aO->(aO=.nilIface\/∃te yg,aO=.iface te yg)->
  Calls P f #[.string s] w λe w'=>∃t v,e=.returned (.tuple #[.int .i64 (Lib.atoiSat s.data.toList),.iface t v])/\Below w.heap.size w w'
 ame:∀(s:ByteArray),s.size<=281474976710656->Lib.atoiAll s.data.toList=Lib.NumEnd.syntax->∀(aO:Value) (w:World),w.cell? ⟨mB,0,none⟩=some aO->(aO=.nilIface\/∃te yg,aO=.iface te yg)->
  Calls P f #[.string s] w λe w'=>∃t v,e=.returned (.tuple #[.int .i64 0,.iface t v])/\Below w.heap.size w w'
theorem TN{g:Nat}(c:pU gl w G)(h:gl g=[.ix]):∃t v,w.cell? ⟨g,0,none⟩=some (.iface t v):=by
 have:=c.1 g;rw[h]at this;generalize a:Value.pointer (some ⟨g,0,none⟩)=q at this;cases this with
 |e2 b base off vs cs h1 d=>
  cases d with
  |cons v _ vs _ e f=>
   cases e with
   |ix t v=>
    obtain⟨rfl,a⟩:=a;have:=TI h1 (j:=0) rfl;grind
theorem TO{f n k:Nat}{l:List UInt8}{s:aY}(h:gq P f)(J:AtoiErr P gl f n k)(q:l.length<=281474976710656)(i:Lib.atoiAll l=.range):
  bD P gl f [.d (.str l)] s (.tuple [.d (.int .i64 (Lib.atoiSat l)),.d .ix]) s:=by
 refine wo h λw G ρ x r a j=> ?_;cases j with
 |cons v1 _ u _ h1 b=>
  cases b;cases h1 with
  |d _ _ h1=>cases h1 with
   |str sp _ m=>
    subst m;obtain⟨o,p,g⟩:=TN a J.amd;refine⟨_,J.range sp az8 i _ w g (.inr ⟨o,p,rfl⟩),?_⟩;rintro e w' ⟨t,v,rfl,c⟩;exact⟨_,rfl,λ_=>.tuple [.int .i64 (Lib.atoiSat sp.data.toList),.iface t v] _ (.cons _ _ _ _ (.d _ _ (.int _ _)) (.cons _ _ _ _ (.d _ _ (.ix _ _)) .nil)),c⟩
theorem TP{f n k:Nat}{l:List UInt8}{s:aY}(h:gq P f)(J:AtoiErr P gl f n k)(q:l.length<=281474976710656)(i:Lib.atoiAll l=Lib.NumEnd.syntax):
  bD P gl f [.d (.str l)] s (.tuple [.d (.int .i64 0),.d .ix]) s:=by
 refine wo h λw G ρ x r a j=> ?_;cases j with
 |cons v1 _ u _ h1 b=>
  cases b;cases h1 with
  |d _ _ h1=>cases h1 with
   |str sp _ m=>
    subst m;obtain⟨o,p,g⟩:=TN a J.iJ;refine⟨_,J.ame sp az8 i _ w g (.inr ⟨o,p,rfl⟩),?_⟩;rintro e w' ⟨t,v,rfl,c⟩;exact⟨_,rfl,λ_=>.tuple [.int .i64 0,.iface t v] _ (.cons _ _ _ _ (.d _ _ (.int _ _)) (.cons _ _ _ _ (.d _ _ (.ix _ _)) .nil)),c⟩
def Ln(P:Program)(t e f:Nat):Prop:=∀(b:Nat) (p v:Value) (a:List Value) (s:ByteArray) (w:World),qj t e b p v a w->a.length+s.size<=140737488355328->
 Calls P f #[.pointer (some ⟨b,0,none⟩),.string s] w λx w'=>x=.returned (.tuple #[.int .i64 s.size,.nilIface])/\C5 b v w w'/\
  ∃c,qj t e b (.pointer (some ⟨b,0,none⟩)) c (a++Lib.strCells s) w'/\(∀g,c.ownBlock=some g->v.ownBlock=some g\/w.heap.size<=g)/\La v e w w'
def Lo(P:Program)(t e f:Nat):Prop:=∀(b:Nat) (p v:Value) (l:List UInt8) (w:World),qj t e b p v (Lib.byteCells l) w->
 Calls P f #[.pointer (some ⟨b,0,none⟩)] w λx w'=>x=.returned (.string ⟨l.toArray⟩)/\Lc v l.length w w'
theorem TQ{i b t e:Nat}{a:List UInt8}(h:ky w G ρ i b (.h' t e a)):∃p v,qj t e b p v (Lib.byteCells a) w/\G b=some (.obj i,0)/\∀g,v.ownBlock=some g->G g=some (.dk i 1,0)/\∃c fz,w.heap[g]?=some (.cells c e fz):=by
 obtain⟨p,v,j,d,f,m⟩:=h;have o:=aF' a;rcases m with⟨rfl,rfl⟩|⟨g,cap,c,fz,rfl,a2,a3,a4,a5,l,q,n⟩
 .exact⟨p,_,⟨j,f,⟨rfl,.inl ⟨rfl,rfl⟩⟩,by simp[Value.ownBlock]⟩,d,λg r=>by grind[Value.ownBlock]⟩
 .refine⟨p,_,⟨j,f,⟨az6,.inr ⟨g,cap,c,fz,az9,aCu _,a2,az6,az6,l,az6,?_⟩⟩,?_⟩,d,λk s=> ?_⟩
  .rw[o,aEL,n];rfl
  all_goals grind[Value.ownBlock]
theorem TR{i b t e:Nat}{p v:Value}{a:List UInt8}(h:qj t e b p v (Lib.byteCells a) w)(n:G b=some (.obj i,0))(f:∀g,v.ownBlock=some g->G g=some (.dk i 1,0)):ky w G ρ i b (.h' t e a):=by
 obtain⟨k,l,m,s⟩:=h;have o:=aF' a;refine⟨p,v,k,n,l,?_⟩;rcases m.2 with⟨rfl,r⟩|⟨g,cap,c,j,rfl,_,a2,a3,a4,a5,q,d⟩
 .grind
 .refine .inr ⟨g,cap,c,j,az9,a2,f g rfl,az6,az6,a5,az6,?_⟩;rw[o,aEL]at d;exact d
theorem GD{i b:Nat}{v:Value}{G':bL}{s s':aY}{o':cc}(x:gK w G ρ s)(S:∀b L n,G b=some (L,n)->b<w.heap.size)(hi:ρ[i]?=some (b+1))(y:s'=s.set i o')(J:G b=some (.obj i,0))
  (B:∀g,v.ownBlock=some g->G g=some (.dk i 1,0)) (d:C5 b v w w') (M:∀k,G' k=G k\/(w.heap.size<=k/\k<w'.heap.size/\G' k=some (.dk i 1,0)))
  (W:∀k n,(k=b\/v.ownBlock=some k)->tP w k n->tP w' k n) (U:ky w' G' ρ i b o'):
  gK w' G' ρ s'/\(∀b L n,G' b=some (L,n)->b<w'.heap.size)/\Good w G w' G':=by
 have A:=λk d=>(M k).resolve_right λh=>absurd h.1 (Nat.not_le.2 d);have r:∀k,k<w.heap.size->(∀n,G k≠some (.obj i,n))->(∀n,G k≠some (.dk i 1,n))->w'.heap[k]?=w.heap[k]?:=λk a z f=>
  d.block k a (λe=>z 0 az8) (λe=>f 0 (B k e))
 have q:de w G w' G':=by
  refine⟨λk V u l=> ?_,λk o P=> ?_,λk n Q=> ?_⟩
  .have a:=Lh l.1;have t:∀L,G k≠some (L,0):=λL h=>absurd (l.2.1 L 0 h) (aDs _);refine⟨?_,?_,l.2.2⟩
   .rw[aE9 (d.block k a (λe=>t _ (by rw[e];exact J)) (λe=>t _ (B k e)))];exact l.1
   .intro L n h;rw[A k a]at h;exact l.2.1 L n h
  .obtain⟨z,p,f⟩:=P;have a:k<w.heap.size:=(aC'.1 f).1;exact⟨az8,p,(r k a (λn h=>az8) (λn h=>az8)).trans f⟩
  .by_cases C:k=b\/v.ownBlock=some k
   .simp_all
   .obtain⟨c,E,N,f,p⟩:=Q;exact⟨c,E,N,(d.block k (aC'.1 f).1 (λe=>C (.inl e)) (λe=>C (.inr e))).trans f,p⟩
 refine⟨⟨by rw[y,aDE];exact x.1,λj c o H F=> ?_⟩,λk L n h=> ?_,?_⟩
 .by_cases R:j=i
  .grind
  .rw[y,aDb (λe=>R e.symm)]at F;refine(x.2 j c o H F).b0 q (λ_ _ h=>h) (λk n h=> ?_) (λm k n h=> ?_)
   .grind
   grind
 .grind[Nat.lt_of_lt_of_le,C5.size]
 .refine⟨d.size,λk a h=>⟨r k a (λn K=> ?_) (λn K=> ?_),A k a⟩,λk n a h=> ?_,λk n a h=>az8,q,d.os,d.out⟩;all_goals grind
theorem TT{f i t e:Nat}{a x:List UInt8}{s:aY}(R:gq P f)(W:Ln P t e f)(Z:s[i]?=some (.h' t e a))(ao:a.length+x.length<=140737488355328):
  bD P gl f [.ptr i 0,.d (.str x)] s (.tuple [.d (.int .i64 x.length),.d .iK]) (s.set i (.h' t e (a++x))):=by
 refine⟨R,λw G ρ vs v aF N hv=> ?_⟩;cases hv with
 |cons v1 _ nM _ h1 K=>cases K with
  |cons v2 _ nP _ n J=>
   cases J;cases h1 with
   |ptr _ _ b hi=>cases n with
    |d _ _ n=>cases n with
     |str sp _ nk=>
      subst nk;obtain⟨p,ad,z,M,r⟩:=TQ (v.2 i b _ hi Z);have U:sp.size=sp.data.toList.length:=rfl;refine(W b p ad _ sp w z (by grind[Lib.byteCells_length])).mono ?_;rintro x w' ⟨rfl,ld,B,l,jF,F⟩;have H:Lib.byteCells a++Lib.strCells sp=Lib.byteCells (a++sp.data.toList):=by simp[Lib.byteCells,Lib.strCells]
      rw[H]at l;have ai:∀g,B.ownBlock=some g->g<w'.heap.size:=by
       intro g A;rcases l.2.2.1.2 with⟨rfl,_⟩|⟨g2,cap,c,q,rfl,_,a2,_⟩
       .grind[Value.ownBlock]
       .simp[Value.ownBlock,aCz]at A;grind
      let G':bL:=λk=>if B.ownBlock=some k then some (.dk i 1,0)else G k
      have C:∀k,G' k=G k\/(w.heap.size<=k/\k<w'.heap.size/\G' k=some (.dk i 1,0)):=az9;have L:G' b=some (.obj i,0):=az9;obtain⟨Q,cq,Y⟩:=GD (s':=s.set i (.h' t e (a++sp.data.toList))) (G':=G') v N hi rfl M (λg h=>(r g h).1) ld C (λk aq m y=>by
       rcases m with rfl|m
       .obtain⟨c,E,q,j,u⟩:=y;rw[z.1]at j;simp at j;obtain⟨rfl,_,_⟩:=j;exact⟨_,_,_,l.1,u⟩
       .obtain⟨c,E,q,j,u⟩:=y;obtain⟨_,c2,pY,o⟩:=r k m;rw[j]at o;simp at o;obtain⟨rfl,rfl,rfl⟩:=o;obtain⟨S,p0,V,gE⟩:=F k c q m j;exact⟨S,_,p0,V,az6⟩) (TR l L (λg A=>az9))
      refine⟨_,G',ρ,rfl,?_,Q,cq,Y,λ_ _ h=>h⟩;exact .tuple [.int .i64 sp.size,.nilIface] _ (.cons _ _ _ _ (.d _ _ (by rw[U];exact .int _ _)) (.cons _ _ _ _ (.d _ _ .iK) .nil))
theorem TU{f i t e:Nat}{d:List UInt8}{s:aY}(bh:gq P f)(W:Lo P t e f)(hs:s[i]?=some (.h' t e d)):bD P gl f [.ptr i 0] s (.d (.str d)) s:=by
 refine⟨bh,λw G ρ vs R aF ay hv=> ?_⟩;cases hv with
 |cons v1 _ nM _ h1 Y=>
  cases Y;cases h1 with
  |ptr _ _ b hi=>
   obtain⟨p,v,z,Q,M⟩:=TQ (R.2 i b _ hi hs);refine(W b p v d w z).mono ?_;rintro ao w' ⟨rfl,bK⟩;have jh:s.set i (.h' t e d)=s:=by
    apply aEm;grind
   have cj:∀{n:Nat},w'.heap.size=w.heap.size\/True:=λ{_}=>.inr trivial;have J:C5 b v w w'->qj t e b p v (Lib.byteCells d) w'->(∀k n,(k=b\/v.ownBlock=some k)->tP w k n->tP w' k n)->∃S G' K,Ending.returned (Value.string ⟨d.toArray⟩)=.returned S/\dp w' G' K .res S (.d (.str d))/\gK w' G' K s/\(∀b L n,G' b=some (L,n)->b<w'.heap.size)/\Good w G w' G'/\(∀i b:Nat,ρ[i]?=some b->K[i]?=some b):=by
    intro l U u;obtain⟨b7,cq,dG⟩:=GD (s':=s) (G':=G) R ay hi jh.symm Q (λg h=>(M g h).1) l (λ_=>.inl rfl) u (TR U Q (λg h=>(M g h).1));exact⟨_,G,ρ,rfl,.d _ _ (.str _ _ rfl),b7,cq,dG,λ_ _ h=>h⟩
   rcases bK with rfl|⟨a,ty,rfl⟩|⟨g,c,rfl,x,rfl⟩
   .exact J ⟨rfl,rfl,aCw _,λ_ _ _ _=>rfl⟩ z (λ_ _ _ h=>h)
   .have H:∀k,k<w.heap.size->(w.drew.alloc (.view a ty)).heap[k]?=w.heap[k]?:=λk l=>Lib.alloc_old w.drew _ k l;refine J ⟨rfl,rfl,az7,λk l _ _=>H k l⟩ ?_ (λk n _ u=> ?_)
    .obtain⟨B,F,r,y⟩:=z;refine⟨(H b (aC'.1 B).1).trans B,F,⟨r.1,?_⟩,y⟩;rcases r.2 with h|⟨g,cap,q,j,m,o,aX,bR⟩
     all_goals grind
    .obtain⟨c,E,j,m,o⟩:=u;exact⟨c,E,j,(H k (aC'.1 m).1).trans m,o⟩
   .obtain⟨B,F,r,y⟩:=z;have V:g≠b:=λe=>y (by rw[e];rfl);have C:∀k,k≠g->(w.drew.freeze ⟨g,0,none⟩ d.length).heap[k]?=w.heap[k]?:=by
     intro k l;unfold World.freeze;rw[aCV x];simp[aEl];rw[aCV (λe=>l e.symm)];rfl
    have Z:∀q E j,w.heap[g]?=some (.cells q E j)->∃A,(w.drew.freeze ⟨g,0,none⟩ d.length).heap[g]?=some (.cells q E A)/\A.2<=max j.2 d.length:=by
     intro q E j h;have dM:w.drew.heap[g]?=some (.cells q E j):=h;obtain⟨lo,hY⟩:=j;unfold World.freeze;grind
    have xF:(w.drew.freeze ⟨g,0,none⟩ d.length).heap.size=w.heap.size:=by
     unfold World.freeze;rw[aCV x];simp
    refine J ⟨by unfold World.freeze;rw[aCV x];rfl,by unfold World.freeze;rw[aCV x];rfl,az6,λk l ai ad=>C k (λe=>ad (by rw[e];rfl))⟩ ?_ (λk n kB u=> ?_)
    .refine⟨(C b (λe=>V e.symm)).trans B,F,⟨r.1,?_⟩,y⟩;rcases r.2 with⟨h,_⟩|⟨g2,cap,q,j,m,o,aX,bR,cF⟩
     all_goals grind
    .obtain⟨c0,E,j,m,o⟩:=u;by_cases N:k=g
     .subst N;obtain⟨A,f1,f2⟩:=Z _ _ _ m;exact⟨c0,E,A,f1,o⟩
     .exact⟨c0,E,j,(C k N).trans m,o⟩
end
def AK:Nat:=140737488355328
def Lr(t e:Nat)(args:List ah)(s:aY):Out:=match args with
 |[.ptr i 0,.d (.str x)]=>match s[i]? with
  |some (.h' a e' bs)=>cond (Nat.beq a t&&Nat.beq e' e&&Nat.ble (bs.length+x.length) AK) (some (.tuple [.d (.int .i64 x.length),.d .iK],s.set i (.h' a e' (bs++x)))) none
  |_=>none
 |_=>none
def Ls(t e:Nat)(args:List ah)(s:aY):Out:=match args with
 |[.ptr i 0]=>match s[i]? with
  |some (.h' a e' bs)=>cond (Nat.beq a t&&Nat.beq e' e) (some (.d (.str bs),s)) none
  |_=>none
 |_=>none
def Lt(args:List ah)(s:aY):Out:=match args with
 |[l,.d (.str sep)]=>match Gy s l with
  |some ss=>cond (Nat.ble ss.length AK&&Nat.ble (s9 sep ss).length AK) (some (.d (.str (s9 sep ss)),s)) none
  |none=>none
 |_=>none
def Lu(args:List ah)(s:aY):Out:=match args with
 |[.d (.int .i64 (.ofNat n))]=>cond (Nat.blt n 100) (some (.d (.str (C6 2 n [])),s)) none
 |_=>none
def Lv(args:List ah)(s:aY):Out:=match args with
 |[.d (.str x)]=>cond (Nat.ble x.length 281474976710656) (match Lib.atoiAll x with
  |.ok v=>some (.tuple [.d (.int .i64 v),.d .iK],s)
  |.range=>some (.tuple [.d (.int .i64 (Lib.atoiSat x)),.d .ix],s)
  |Lib.NumEnd.syntax=>some (.tuple [.d (.int .i64 0),.d .ix],s)) none
 |_=>none
def Lw(t e g c h b d:Nat):Nat->List ah->aY->Out:=λf a s=>
 cond (Nat.beq f g) (Lr t e a s) (cond (Nat.beq f c) (Ls t e a s) (cond (Nat.beq f h) (Lt a s) (cond (Nat.beq f b) (Lu a s) (cond (Nat.beq f d) (Lv a s) none))))
structure yh(P:Program)(gl:Nat->List D)(t e oe fs wq fi gJ qk mB:Nat):Prop where
 pg:gq P oe
 cs:gq P fs
 C8:gq P wq
 ci:gq P fi
 ca:gq P gJ
 w:Ln P t e oe
 s:Lo P t e fs
 j:Lj P wq
 i:Ll P fi
 a:Lm P gJ
 GF:AtoiErr P gl gJ qk mB
theorem amj{P:Program}{gl:Nat->List D}{t e f:Nat}{args:List ah}{s:aY}{r:ah}{s':aY}(b:gq P f)(W:Ln P t e f)(h:Lr t e args s=some (r,s')):bD P gl f args s r s':=by
 unfold Lr at h;split at h
 .rename_i i x;split at h
  .rename_i c e' bs hs;cases a:(Nat.beq c t&&Nat.beq e' e&&Nat.ble (bs.length+x.length) AK)with
   |false=>simp_all
   |true=>
    rw[a]at h;simp only[aCx]at a;obtain⟨rfl,rfl⟩:=h;obtain rfl:=aCG a.1.1;obtain rfl:=aCG a.1.2;exact TT b W hs (aCM a.2)
  simp_all
 simp_all
theorem amk{P:Program}{gl:Nat->List D}{t e f:Nat}{args:List ah}{s:aY}{r:ah}{s':aY}(c:gq P f)(W:Lo P t e f)(h:Ls t e args s=some (r,s')):bD P gl f args s r s':=by
 unfold Ls at h;split at h
 .rename_i i;split at h
  .rename_i b e' bs hs;cases a:(Nat.beq b t&&Nat.beq e' e)with
   |false=>simp_all
   |true=>
    rw[a]at h;simp only[aCx]at a;obtain⟨rfl,rfl⟩:=h;obtain rfl:=aCG a.1;obtain rfl:=aCG a.2;grind[TU]
  simp_all
 simp_all
theorem aml{P:Program}{gl:Nat->List D}{f:Nat}{args:List ah}{s:aY}{r:ah}{s':aY}(b:gq P f)(W:Lj P f)(h:Lt args s=some (r,s')):bD P gl f args s r s':=by
 unfold Lt at h;split at h
 .rename_i l sep;split at h
  .rename_i ss hs;cases a:(Nat.ble ss.length AK&&Nat.ble (s9 sep ss).length AK)with
   |false=>simp_all
   |true=>
    rw[a]at h;simp only[aCx]at a;obtain⟨rfl,rfl⟩:=h;exact Gz b W hs (aCM a.1) (aCM a.2)
  simp_all
 simp_all
theorem amm{P:Program}{gl:Nat->List D}{f:Nat}{args:List ah}{s:aY}{r:ah}{s':aY}(b:gq P f)(W:Ll P f)(h:Lu args s=some (r,s')):bD P gl f args s r s':=by
 unfold Lu at h;split at h
 .rename_i n;cases a:Nat.blt n 100 with
  |false=>simp_all
  |true=>
   rw[a]at h;grind[amc,Nat.blt_eq]
 simp_all
theorem amn{P:Program}{gl:Nat->List D}{f c b:Nat}{args:List ah}{s:aY}{r:ah}{s':aY}(d:gq P f)(W:Lm P f)(E:AtoiErr P gl f c b)(h:Lv args s=some (r,s')):bD P gl f args s r s':=by
 unfold Lv at h;split at h
 .rename_i x;cases a:Nat.ble x.length 281474976710656 with
  |false=>simp_all
  |true=>
   rw[a]at h;have a:=aCM a;grind[TM,TO,TP]
 simp_all
theorem amo{P:Program}{gl:Nat->List D}{t e g c i b d n m:Nat}(X:yh P gl t e g c i b d n m):hP P gl (Lw t e g c i b d):=by
 intro f o s r p h;unfold Lw at h;cases h1:Nat.beq f g with
 |true=>rw[h1]at h;rw[aCG h1];exact amj X.pg X.w h
 |false=>
  rw[h1]at h;cases a:Nat.beq f c with
  |true=>rw[a]at h;rw[aCG a];exact amk X.cs X.s h
  |false=>
   rw[a]at h;cases l:Nat.beq f i with
   |true=>grind[Nat.eq_of_beq_eq_true,aml,yh.C8,yh.j]
   |false=>
    rw[l]at h;cases k:Nat.beq f b with
    |true=>grind[Nat.eq_of_beq_eq_true,amm,yh.ci,yh.i]
    |false=>
     rw[k]at h;cases j:Nat.beq f d with
     |true=>rw[j]at h;rw[aCG j];exact amn X.ca X.a X.GF h
     |false=>simp_all
end Go.aG
