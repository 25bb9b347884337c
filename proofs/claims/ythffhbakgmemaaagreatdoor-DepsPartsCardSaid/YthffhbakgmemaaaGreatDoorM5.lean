/- Part of parts_said. -/
import Derived.Test.YthffhbakgmemaaaGreatDoorM4
import Derived.OrdersIn
import Derived.Shelf.Strings.BuilderF
import Derived.Lib.Join
import Derived.Lib.ItoaNum
import Derived.Lib.AtoiAll
set_option linter.defProp false
set_option maxRecDepth 100000
set_option maxHeartbeats 8000000
set_option linter.unusedSimpArgs false
set_option linter.unusedVariables false
namespace Go.aG
variable {p:Prop}
section
variable {P:Program}{gl:Nat->List D}{n0 nt:Nat}{a:Act}{w w' w0:World}{G G' G0:bL}{ρ ρ' ρ0:List Nat}{lam lam':Nat->Option Nat}{st aU:ag}{o:Oper}{Q:Exit->Act->World->Prop}
variable {O:Option aD->World->bL->List Nat->Prop}{Y:jb Prop}{yi fV:Nat}
structure uO(O:Option aD->World->bL->List Nat->Prop)(ρ0:List Nat)(fV:Nat):Prop where
 run:∀p W G ρ dH G' ρ',O p W G ρ->Good W G dH G'->(∀i b:Nat,ρ0[i]?=some b->ρ'[i]?=some b)->O p dH G' ρ'
 pre:∀p W G ρ,O p W G ρ->∀i b:Nat,ρ0[i]?=some b->ρ[i]?=some b
 k8:∀p W G ρ,O p W G ρ->∃r,W.heap[fV]?=some (.loop r)
def CN(P:Program)(gl:Nat->List D)(O:Option aD->World->bL->List Nat->Prop)(Y:jb Prop)(fV m:Nat):Prop:=
 ∀(W:World) (G:bL) (ρ:List Nat) (s:aY) (f:List Value) (g:List ah) (c:Option aD->aY->Prop),O none W G ρ->qf gl W G ρ s->cu W G ρ f g->Y g s c->
  YieldAt Fence.wide m P fV ⟨f⟩ W λe dH=>∃(a:Option aD) (G':bL) (ρ':List Nat) (d:aY),e=.returned (.bool a.isNone)/\O a dH G' ρ'/\qf gl dH G' ρ' d/\de W G dH G'/\
   (∀b,b≠fV->b<W.heap.size->G b=none->dH.heap[b]?=W.heap[b]?/\G' b=none)/\(∀i b:Nat,ρ[i]?=some b->ρ'[i]?=some b)/\c a d
def rJ(n0:Nat)(gl:Nat->List D)(nt:Nat)(O:Option aD->World->bL->List Nat->Prop)(K:ag->Option aD->Prop)(a':Act)(w':World):Prop:=
 nt<=a'.tmps.size/\∃G' ρ' lam' aU a,Marks n0 w' G' a'.defers/\b2 gl w' G' ρ' lam' a'.tmps aU/\O a w' G' ρ'/\K aU a
def uP(n0:Nat)(gl:Nat->List D)(nt:Nat)(O:Option aD->World->bL->List Nat->Prop)(K:aD->ag->Option aD->Prop):Exit->Act->World->Prop
 |.normal,a',w'=>rJ n0 gl nt O (K .normal) a' w'
 |.exit i,a',w'=>rJ n0 gl nt O (K (.exit i)) a' w'
 |.ret,a',w'=>rJ n0 gl nt O (K .ret) a' w'
 |_,_,_=>False
theorem Az{pp:Option aD}{K:ag->Option aD->Prop}{a':Act}(c:uO O ρ0 fV)(a:O pp w G ρ)(h:cP n0 gl nt w G ρ (λst=>K st pp) a' w'):rJ n0 gl nt O K a' w':=by
 obtain⟨d,G',ρ',lam',aU,g,f,j,k,l⟩:=h;exact⟨d,G',ρ',lam',aU,pp,g,f,c.run _ _ _ _ _ _ _ a j (λi b m=>k i b (c.pre _ _ _ _ a i b m)),l⟩
theorem RX{n:Nat}{next:Act->World->Prop}(h:o.wp P a w next Q):o.wpIn Fence.wide n P a w next Q:=by
 refine⟨λ_ _=>trivial,?_⟩;rw[show Fence.wide.round=none from rfl,Oper.semAt_none];unfold Oper.wp at h;generalize (execOp a.eval o).run P w=r at h;cases r with
 |ok wg w'=>
  cases wg with
  |value v=>exact h
  |skip=>exact h
  |defer d=>exact h
  |enter f args=>exact⟨λh=>by grind[Fence.wide],callsIn_wide.2 h⟩
  |row r args=>
   refine⟨λh=>by grind[Fence.wide],?_⟩;intro c j _;obtain⟨v,b5,h1,g⟩:=h c j;exact⟨v,b5,h1,stepsIn_wide.2 g⟩
  |_=>exact h.elim
 |halt e w'=>cases e<;>first|exact h|exact h.elim
theorem Marks.akU{l:List Deferred}(h:Marks n0 w G l)(d:∃r,w.heap[fV]?=some (.loop r))(hi:∀b,b≠fV->b<w.heap.size->G b=none->w'.heap[b]?=w.heap[b]?/\G' b=none):Marks n0 w' G' l:=by
 obtain⟨c,h1,a,f⟩:=h;refine⟨c,h1,a,λD g=> ?_⟩;grind
def AA:I->Bool
 |.cl .. =>false
 |_=>true
theorem KU{c:Type}{x:Option c}{f:c->I}{i:I}(d:∀a,AA (f a)=true)(h:x.map f=some i):AA i=true:=by
 obtain⟨a,_,rfl⟩:=aDr.1 h;simp_all
theorem axK{c:Type}{x:Option c}{f:c->Option I}{i:I}(d:∀a,f a=some i->AA i=true)(h:x.bind f=some i):AA i=true:=by
 obtain⟨a,_,h⟩:=aCL.1 h;grind
theorem akV{an:ey}{m:fh}{d:Option Nat}{f:aG.O}{args:List aG.O}(h:jA P an m o=some (.cl d f args)):
  ∃c a t,o.op=.call c/\o.dst=d/\c.callee=.value a/\bW P t a=some f/\hW (λx y=>∃t,bW P t x=some y) c.args.toList args:=by
 have n:AA (.cl d f args)=false:=rfl;by_cases l:∃c a,o.op=.call c/\c.callee=.value a
 .obtain⟨c,a,j,k⟩:=l;unfold jA at h;rw[j]at h;simp only[k,aDt,aCL]at h;obtain⟨p,g,h⟩:=h;have g:=JU (f:=λ_ i=>c.argTypes.getD i 0) g;split at h
  .split at h
   .grind
   .obtain⟨rfl,rfl,rfl⟩:=h;exact⟨c,_,0,j,rfl,k,rfl,g⟩
  grind[Option.bind_eq_some_iff]
 .have:AA (.cl d f args)=true:=by
   unfold jA at h;split at h;case h_25=>
    rename_i c j;split at h
    .simp_all
    all_goals
     repeat' first
      |(cases h)
      |(cases h)
      |(refine KU (λ_=> ?_) h<;>rfl)
      |(replace h:=aCL.1 h;obtain⟨_,_,h⟩:=h)
      |(unfold zy at h)
      |(split at h)
      |(dsimp only at h;split at h)
   all_goals
    repeat' first
     |(cases h;done)
     |(cases h;rfl)
     |(exact KU (λ_=>rfl) h)
     |(refine KU (λ_=> ?_) h;split<;>rfl)
     |(replace h:=aCL.1 h;obtain⟨_,_,h⟩:=h)
     |(unfold zy at h)
     |(split at h)
     |(dsimp only at h;split at h)
  simp_all
theorem KV{R:Type}{A:mT R}{Y:jb R}{i:I}{st:ag}{pp:Option aD}{K:ag->Option aD->R}:
  (∃j d f args,i=.cl d f args/\aO gl st f=.f' j/\mV A gl Y yi i st pp K=A.guard (Nat.beq j yi) (BN A gl Y d args st pp K))\/mV A gl Y yi i st pp K=step A gl i st λst=>K st pp:=by
 cases i with
 |cl d f args=>
  cases hv:aO gl st f with
  |f' j=>exact .inl ⟨j,d,f,args,rfl,hv,by simp_all[mV,BO]⟩
  |_=>simp_all[mV,BO]
 |_=>exact .inr rfl
theorem qf.akW{dH:World}{s':aY}(h:b2 gl w G ρ lam a.tmps st)(c:qf gl dH G' ρ' s')(f:de w G dH G')(d:∀i b:Nat,ρ[i]?=some b->ρ'[i]?=some b):
  b2 gl dH G' ρ' (λ_=>none) a.tmps {st.lP with s:=s'} where
 aR t:=.cz ((RR (h.aR t)).keep f λi b=>d i (b+1))
 bM t cs g:=by grind[ag.lP]
 nb _ _:=rfl
 ob:=c.ob
 eU:=c.eU
 lt:=c.lt
theorem akX{n:Nat}{an:ey}{m:fh}{d:Option Nat}{f:aG.O}{args:List aG.O}{pp:Option aD}{K:ag->Option aD->Prop}(hz:CN P gl O Y fV (n-1))(B:uO O ρ0 fV)(s5:ρ0[yi]?=some (fV+1))(p:b6 n0 gl nt w G ρ lam a st)
  (g:O pp w G ρ) (h:jA P an m o=some (.cl d f args)) (s:kX nt o=true) (V:aO gl st f=.f' yi) (j:BN (bA P gl) gl Y d args st pp K):o.wpIn Fence.wide n P a w (rJ n0 gl nt O K) Q:=by
 obtain⟨c,z,ar,S,k,R,nL,L⟩:=akV h;obtain⟨r,j⟩:=j;simp only[aCx]at r;obtain rfl:pp=none:=az8;obtain⟨ao,u⟩:=dY nL p.rel;rw[V]at u;have A:=u;have E:a.eval z=.func (.yield fV) #[] #[]:=by
  generalize a.eval z=v at A;cases A with
  |f' _ l aE=>
   have:=B.pre _ _ _ _ g yi _ s5;simp_all
 have xA:=E9 p L r.2;obtain⟨fn,ad,M,X,dA,uD⟩:=hz w G ρ st.s _ _ _ g p.rel.wd xA j;have F:(execOp a.eval o).run P w=.ok (.round fV fn ad M X) w:=by
  have e:(#[]:Array Value)++(⟨c.args.toList.map a.eval⟩:Array Value)++ #[]=⟨c.args.toList.map a.eval⟩:=az7;simp[execOp,S,aCD,resolve,R,E,Deferred.ofValue,aCK,aCH,invoke];rw[<-dA];congr 2;grind
 refine⟨λ_ _=>trivial,?_⟩;rw[show Fence.wide.round=none from rfl,Oper.semAt_none,F,Oper.uponIn_round];refine⟨λh=>by grind[Fence.wide],uD.mono ?_⟩;rintro e dH ⟨C,G',ρ',s',rfl,h1,J,N,H,U,t⟩;have dn:=qf.akW p.rel J N U;have hm:=p.eT.akU (B.k8 _ _ _ _ g) H;rw[k];cases d with
 |none=>exact⟨p.sz,G',ρ',_,_,C,hm,dn,h1,t⟩
 |some d=>
  have Z:d<a.tmps.size:=by
   unfold kX at s;rw[k]at s;exact aC2 (by grind[Nat.blt_eq]) p.sz
  exact⟨aAe,G',ρ',_,_,C,by grind[put_defers],dn.set Z (.cz (.d _ _ (.bool _))),h1,t⟩
theorem akY{n:Nat}{an:ey}{m:fh}{i:I}{pp:Option aD}{K:ag->Option aD->Prop}(t:CN P gl O Y fV (n-1))(l:uO O ρ0 fV)(u:ρ0[yi]?=some (fV+1))(p:b6 n0 gl nt w G ρ lam a st)
  (g:O pp w G ρ) (h:jA P an m o=some i) (k:kX nt o=true) (c:mV (bA P gl) gl Y yi i st pp K):o.wpIn Fence.wide n P a w (rJ n0 gl nt O K) Q:=by
 rcases KV (gl:=gl) (yi:=yi) (A:=bA P gl) (Y:=Y) (i:=i) (st:=st) (pp:=pp) (K:=K)with⟨j,d,f,args,rfl,s,he⟩|he
 .rw[he]at c;obtain⟨r,c⟩:=c;grind[Nat.eq_of_beq_eq_true,akX]
 .rw[he]at c;exact RX (Oper.wp_mono (λa' w' h=>Az l g h) (JV p h k c))
theorem b6.Gc{pp:Option aD}{K:ag->Option aD->Prop}(p:b6 n0 gl nt w G ρ lam a st)(c:O pp w G ρ)(h:K st pp):rJ n0 gl nt O K a w:=
 ⟨p.sz,G,ρ,lam,st,pp,p.eT,p.rel,c,h⟩
theorem axL{R:Type}(A:mT R)(gl:Nat->List D)(Y:jb R)(yi:Nat)(g:cm)(l:List cm)(st:ag)(pp:Option aD)(K:ag->Option aD->R):
  ie A gl Y yi (g::l) st pp K=ie A gl Y yi [g] st pp λst pp=>ie A gl Y yi l st pp K:=by
 obtain⟨g,i⟩:=g;cases g with
 |none=>rfl
 |some q=>simp_all[ie]
theorem KW{n k:Nat}{ops:Array Oper}{rest:List Nat}(d:ops[k]?=some o)(c:o.guard=none)(h:o.wp P a w (λa' w'=>wpOpsIn Fence.wide n P ops Q rest a' w') Q):
  wpOpsIn Fence.wide n P ops Q (k::rest) a w:=by
 simp_all[wpOpsIn,Region.wanted,RX]
theorem KX{n:Nat}{ops:Array Oper}{an:ey}{K:ag->Option aD->Prop}(L:CN P gl O Y fV (n-1))(t:uO O ρ0 fV)(R:ρ0[yi]?=some (fV+1)):
  ∀(fuel:Nat) {l:List Oper} {k:Nat} {m:fh} {u:List cm} {w:World} {G:bL} {ρ:List Nat} {lam:Nat->Option Nat} {a:Act} {st:ag} {pp:Option aD},l.length<=fuel->
  (∀j,ops[k+j]?=l[j]?)->hV P an nt ops m l=some u->b6 n0 gl nt w G ρ lam a st->O pp w G ρ->ie (bA P gl) gl Y yi u st pp K->
  (∀a' w',rJ n0 gl nt O K a' w'->Q .normal a' w')->wpOpsIn Fence.wide n P ops Q (List.range' k l.length) a w
 |_,[],k,m,u,w,G,ρ,lam,a,st,pp,_,_,r,p,s,c,v=>by
  simp[hV,aCz]at r;subst r;exact v _ _ (p.Gc s c)
 |0,o::l,k,m,u,w,G,ρ,lam,a,st,pp,z8,_,_,_,_,_,_=>az8
 |fuel+1,o::l,k,m,u,w,G,ρ,lam,a,st,pp,z8,aE,r,p,s,c,v=>by
  have S:ops[k]?=some o:=by have:=aE 0;simp_all
  rcases vS r with⟨g,f,h1,F,rfl⟩|⟨cO,eM,bC,d,ins,e,f,rfl,ai,bk,he,F,rfl⟩
  .obtain⟨z,c2,U,c4⟩:=xT h1;obtain⟨aM,i⟩:=g;rw[aCU,aDH];simp[wpOpsIn,S];have next:∀a' w',rJ n0 gl nt O (λst pp=>ie (bA P gl) gl Y yi f st pp K) a' w'->wpOpsIn Fence.wide n P ops Q (List.range' (k+1) l.length) a' w':=by
    rintro a' w' ⟨A,G',ρ',lam',aU,X,C,B,H,J⟩;refine KX L t R fuel (l:=l) (k:=k+1) (m:=vE P m o) az8 (λj=> ?_) F ⟨B,C,A⟩ H J v;have:=aE (j+1);grind
   have mono:∀{K':ag->Option aD->Prop},(∀st pp,K' st pp->ie (bA P gl) gl Y yi f st pp K)->o.wpIn Fence.wide n P a w (rJ n0 gl nt O K') Q->o.wpIn Fence.wide n P a w (wpOpsIn Fence.wide n P ops Q (List.range' (k+1) l.length)) Q:=
    λE h=>Oper.wpIn_mono (λa' w' h=>next a' w' (by obtain⟨A,G',ρ',lam',aU,X,C,B,H,J⟩:=h;exact⟨A,G',ρ',lam',aU,X,C,B,H,E _ _ J⟩)) h
   have KS:mV (bA P gl) gl Y yi i st pp (λst pp=>ie (bA P gl) gl Y yi f st pp K)->o.wpIn Fence.wide n P a w (wpOpsIn Fence.wide n P ops Q (List.range' (k+1) l.length)) Q:=by
    intro c;rcases z with z|rfl
    .exact mono (λ_ _ h=>h) (akY L t R p s z U c)
    .exact c.elim
   have ar:∀{K':ag->Option aD->Prop},(∀st pp,K' st pp->ie (bA P gl) gl Y yi f st pp K)->K' (st.dQ i.dst (.tuple [])) pp->wpOpsIn Fence.wide n P ops Q (List.range' (k+1) l.length) (a.put o.dst undef) w:=
    λE h=>next _ _ (Az t s (Cv p c4.symm U (E _ _ h)))
   rcases J5 c2 p.rel.aR with⟨rfl,hw⟩|⟨ad,want,rfl,⟨b,au,hw⟩|⟨au,hw⟩|⟨g1,g2⟩⟩
   .rw[hw];exact KS c
   .rw[hw];simp only[ie,au]at c;cases r:cond want b (!b)with
    |true=>simp_all
    |false=>rw[r]at c;exact⟨λ_ _=>trivial,ar (K':=λst pp=>ie (bA P gl) gl Y yi f st pp K) (λ_ _ h=>h) c⟩
   .rw[hw];simp[ie,au]at c;exact⟨λ_ _=>trivial,ar (K':=λst pp=>ie (bA P gl) gl Y yi f st pp K) (λ_ _ h=>h) c⟩
   .exfalso;simp[ie]at c;first
     |exact c
     |(split at c
       .rename_i b au;exact g1 b au
       .rename_i au;exact g2 au
       .exact c)
  .obtain⟨ad,aB,i,y,sz,b',rfl,N⟩:=vQ ai;have lU:ops[k+1]?=some cO:=az8;have ru:ops[k+2]?=some eM:=az8;have gu:step (bA P gl) gl (.ln d ad aB i y sz b') st λay=>ie (bA P gl) gl Y yi f ((ay.dQ (some e) .undef).dQ none .undef) pp K:=c;obtain⟨v1,v2,w1,b,aP,us,xo,bZ,G',n',z,aI,fz,r0,b7,cq,dG,rv,Aa,jj,mu,Z,uB,Cy⟩:=FE p N gu;obtain⟨V,hy,jG,sS⟩:=FJ N r0;obtain⟨aQ,aR,bT,bt,sR,x,t3,q1,bG,cM,dB,gE,jW,pb,p7,rm,_⟩:=N.ex;have M:=aC2 bk p.sz;have sT:=aC2 he p.sz;rw[aCU,aCU,aCU,aDH,aDH,aDH];refine KW S cM (gg b7 ?_);rw[bG];refine KW lU jW (gg (cq _ _ ?_ ?_) ?_)
   .rw[rr M,aCT rfl]
   .rw[rr M,aCV (aCP hy)]
   rw[gE];refine KW ru rm (vH (dG _ _ ?_ ?_ rv) ?_)
   .rw[rr aA5,aCT rfl]
   .rw[eval_put (λq aS=>(V q aS).1),eval_put (λq aS=>(V q aS).2)]
   rw[p7];have dn:=J8 (v2:=v2) mu uB M sT;refine KX L t R fuel (l:=bC) (k:=k+1+1+1) (m:=m) az9 (λj=> ?_) F ⟨dn,p.eT.good Z,aBH⟩ (t.run _ _ _ _ _ _ _ s Z (t.pre _ _ _ _ s)) Cy v;have:=aE (j+3);grind
theorem akZ{l a:List Nat}(h:∀i b:Nat,l[i]?=some b->a[i]?=some b):l.length<=a.length:=by
 rcases aFp l.length with bB|bB
 .omega
 .have c:l[l.length-1]?=some (l[l.length-1]' az6):=aCB az6;grind
theorem uO.forget(d:uO O ρ0 fV){p:Option aD}{n:Nat}(c:O p w G ρ)(f:∀b L n,G b=some (L,n)->b<w.heap.size)(j:ρ0.length<=n){a:List Nat}(h:a=ρ\/a=ρ.take n):O p w G a:=by
 refine d.run _ _ _ _ _ _ _ c (Good.refl f) λi b g=> ?_;have h1:=d.pre _ _ _ _ c i b g;grind
theorem ak0{K:aD->ag->Option aD->Prop}(t:uO O ρ0 fV){ts k:List Nat}{I:Nat->ag->Prop}{n N:Nat}(g:ρ0.length<=N){e:Exit}{a':Act}{w':World}
  (h:uP n0 gl nt O (λx st p=>match x with|.normal=>(bA P gl).guard p.isNone (aG.forget (bA P gl) N ts k st (λaU=>∃m,m<n/\I m aU))|x=>K x st p) e a' w'):
  Exit.then (λa' w'=>∃m,m<n/\∃G ρ lam st,b6 n0 gl nt w' G ρ lam a' st/\O none w' G ρ/\I m st) (uP n0 gl nt O K) e a' w':=by
 cases e with
 |normal=>
  obtain⟨d,G',ρ',lam',aU,w,f,a,j,hp,v,m,u,r⟩:=h;have c:w=none:=az8;subst c;have p:b6 n0 gl nt w' G' ρ' lam' a' aU:=⟨a,f,d⟩;obtain⟨s,z,o,l⟩:=p.forget (n:=N) v;exact⟨m,u,G',s,z,_,o,t.forget j a.lt g l,r⟩
 |exit i=>exact h
 |ret=>exact h
 |_=>exact h.elim
theorem ak1{n:Nat}{K:aD->ag->Option aD->Prop}{b:eL}{y:Code}(d:∀{w:World} {G:bL} {ρ:List Nat} {lam:Nat->Option Nat} {a:Act} {st:ag} {pp:Option aD},b6 n0 gl nt w G ρ lam a st->O pp w G ρ->
   hx (bA P gl) gl Y yi b st pp K->y.wpIn Fence.wide n P (uP n0 gl nt O K) a w) {e:Exit} {a':Act} {w':World}
  (h:uP n0 gl nt O (λx st p=>match x with|.normal=>hx (bA P gl) gl Y yi b st p K|x=>K x st p) e a' w'):
  Exit.then (y.wpIn Fence.wide n P (uP n0 gl nt O K)) (uP n0 gl nt O K) e a' w':=by
 cases e with
 |normal=>
  obtain⟨c,G',ρ',lam',aU,l,g,f,j,k⟩:=h;exact d ⟨f,g,c⟩ j k
 |exit i=>exact h
 |ret=>exact h
 |_=>exact h.elim
theorem ak2{K:aD->ag->Option aD->Prop}{i:Nat}{e:Exit}{a':Act}{w':World}
  (h:uP n0 gl nt O (λx st p=>match x with|.exit j=>cond (Nat.beq j i) (K .normal st p) (K (.exit j) st p)|x=>K x st p) e a' w'):Exit.inBlock i (uP n0 gl nt O K) e a' w':=by
 cases e with
 |normal=>exact h
 |ret=>exact h
 |exit j=>
  obtain⟨c,G',ρ',lam',aU,l,g,f,k,a⟩:=h;simp[Exit.inBlock];by_cases d:j=i
  .subst d;simp at a;simp;exact⟨c,G',ρ',lam',aU,l,g,f,k,a⟩
  .have:Nat.beq j i=false:=by simp_all[aDS]
   simp[this,cond]at a;simp[d,aCW];exact⟨c,G',ρ',lam',aU,l,g,f,k,a⟩
 |_=>exact h.elim
theorem ak3(vT:xU P gl){n:Nat}{an:ey}{m:fh}(X:CN P gl O Y fV (n-1))(r:uO O ρ0 fV)(s5:ρ0[yi]?=some (fV+1)):
  ∀(c:Code) {l o:List (List Nat×List Nat)} {k:eL} {w:World} {G:bL} {ρ:List Nat} {lam:Nat->Option Nat} {a:Act} {st:ag} {pp:Option aD} {K:aD->ag->Option aD->Prop},
  dv P an nt m c l=some (k,o)->b6 n0 gl nt w G ρ lam a st->O pp w G ρ->hx (bA P gl) gl Y yi k st pp K->c.wpIn Fence.wide n P (uP n0 gl nt O K) a w:=by
 intro c;induction c with
 |skip=>
  intro l o k w G ρ lam a st pp K d p j f;obtain⟨rfl,rfl⟩:=d;exact wpIn_skip (p.Gc j f)
 |region id ops C=>
  intro l o k w G ρ lam a st pp K d p j f;simp[dv]at d;split at d
  .rename_i is s;cases C with
   |true=>
    simp at d;split at d
    .rename_i dF U;obtain⟨rfl,rfl⟩:=d;refine aEQ.2 (aD4 (vT (K:=λe st=>K e st pp) s U p f) λe a' w' h=> ?_);cases e with
     |normal=>exact Az (K:=K .normal) r j h
     |exit i=>exact Az (K:=K (.exit i)) r j h
     |ret=>exact Az (K:=K .ret) r j h
     |_=>exact h.elim
    .split at d
     .rename_i c H;obtain⟨rfl,rfl⟩:=d;obtain⟨ar,e,aB,bq,aT,_,J,L,M,rfl⟩:=J' H;obtain⟨Z,k2⟩:=aiK f;exact aEQ.2 (QK s J L M p ⟨Good.refl p.rel.lt,λ_ _ h=>h⟩ Z k2 λa' w' h=>Az r j h)
     .obtain⟨rfl,rfl⟩:=d;exact f.elim
   |false=>
    obtain⟨rfl,rfl⟩:=d;refine wpIn_region ?_;have:List.range ops.size=List.range' 0 ops.toList.length:=aBI;rw[this];exact KX X r s5 _ (aCw _) (λay=>az7) s p j f λa' w' h=>h
  simp_all
 |seq x y z A=>
  intro l o k w G ρ lam a st pp K d p j f;simp[dv]at d;split at d
  .rename_i vx l1 ai;split at d
   .rename_i B l2 t;simp at d;obtain⟨rfl,rfl⟩:=d;refine wpIn_seq (aEu (z ai p j f) λe a w h=> ?_);exact ak1 (λp j f=>A t p j f) h
   simp_all
  simp_all
 |cond c x y z A=>
  intro l o k w G ρ lam a st pp K d p j f;simp[dv]at d;split at d
  .rename_i vx co l1 E ai;split at d
   .rename_i B l2 t;simp[aCz,aC6]at d;obtain⟨rfl,rfl⟩:=d;simp[hx]at f;obtain⟨ao,ej⟩:=dY E p.rel;split at f
    .grind[wpIn_cond_true,wpIn_cond_false,dq.bool]
    .exact f.elim
   simp_all
  simp_all
 |block i b ih=>
  intro l o k w G ρ lam a st pp K d p j f;simp[dv]at d;split at d
  .rename_i kx l1 au;simp[aCz,aC6]at d;obtain⟨rfl,rfl⟩:=d;exact wpIn_block (aEu (ih au p j f) λe a w h=>ak2 h)
  simp_all
 |loop b ih=>
  intro l o k w G ρ lam a st pp K d p j f;cases l with
  |nil=>grind[dv]
  |cons q l=>
   obtain⟨ts,bs⟩:=q;simp[dv]at d;split at d
   .rename_i kx l1 au;simp only[aCz,aC6]at d;obtain⟨rfl,rfl⟩:=d;simp only[hx]at f;obtain⟨hp,kB,I,n,bB,uD⟩:=f;have F:pp=none:=az8;subst F;obtain⟨S,pd,Q,N⟩:=p.forget (n:=st.s.length) kB;have v:∀{w:World} {G:bL} {ρ:List Nat} {lam:Nat->Option Nat} {a:Act} {st:ag},b6 n0 gl nt w G ρ lam a st->O none w G ρ->ρ0.length<=st.s.length:=λp j=>by
     rw[<-p.rel.ob.1];exact akZ (r.pre _ _ _ _ j)
    refine aEQ.2 (wp_loop_ghost (λn a w=>∃G ρ lam st,b6 n0 gl nt w G ρ lam a st/\O none w G ρ/\I n st) n ⟨G,S,pd,_,Q,r.forget j p.rel.lt (v p j) N,bB⟩ ?_);rintro V bp w1 ⟨gZ,lB,Kc,ad,u,f1,R⟩;refine aD4 (aEQ.1 (ih au u f1 (uD V ad R))) λe a' w' h=> ?_;exact ak0 r (v u f1) h
   simp_all
 |exit i=>
  intro l o k w G ρ lam a st pp K d p j f;simp only[dv,aCz,aC6]at d;obtain⟨rfl,rfl⟩:=d;exact wpIn_exit (p.Gc j f)
 |ret=>
  intro l o k w G ρ lam a st pp K d p j f;simp only[dv,aCz,aC6]at d;obtain⟨rfl,rfl⟩:=d;exact wpIn_ret (p.Gc j f)
 |rangeFunc g ps x y _ _=>
  intro l o k w G ρ lam a st pp K d p j f;simp only[dv]at d;split at d
  .simp only[aFq,aCz,aC6]at d;obtain⟨_,rfl,_⟩:=d;exact f.elim
  simp_all
 |scope _=>grind[dv]
 |label _=>grind[dv]
 |goto _=>grind[dv]
 |refuse _=>
  intro l o k w G ρ lam a st pp K d p j f;simp only[dv,aCz,aC6]at d;obtain⟨rfl,rfl⟩:=d;exact f.elim
end
section
variable {P:Program}{gl:Nat->List D}{n0 nt:Nat}{a:Act}{w w' w0:World}{G G' G0:bL}{ρ ρ' ρ0:List Nat}{lam lam':Nat->Option Nat}{st aU:ag}{o:Oper}{Q:Exit->Act->World->Prop}
def KZ(r0:Loop)(p:Option aD)(r:Loop):Prop:=
 ∃c:Option Code,r={r0 with state:=if c.isNone then .ready else .done,pending:=c}/\(∀j,c=some j->(x8 j).isSome=true)/\p=c.bind x8
theorem KZ.none{r0 r:Loop}(h1:r0.state=.ready)(d:r0.pending=none)(h:KZ r0 none r):r=r0:=by
 obtain⟨c,rfl,a,hp⟩:=h;cases c with
 |none=>cases r0;subst h1 d;rfl
 |some j=>
  have:=a j rfl;simp at hp;rw[<-hp]at this;simp at this
def Kept(w0:World)(G0:bL)(ρ0:List Nat)(a:Act)(c:Nat->ah)(r0:Loop)(p:Option aD)(W:World)(G:bL)(ρ:List Nat):Prop:=
 (∃r,KZ r0 p r/\Still w0 G0 ρ0 a c r W G ρ)/\∀i b:Nat,(ρ0++[w0.heap.size+1+1])[i]?=some b->ρ[i]?=some b
theorem ak4{g:Nat->ah}{r0:Loop}:uO (Kept w0 G0 ρ0 a g r0) (ρ0++[w0.heap.size+1+1]) (w0.heap.size+1) where
 run p W G ρ dH G' ρ' h d hp:=by
  obtain⟨⟨r,h1,c⟩,_⟩:=h;exact⟨⟨r,h1,c.run d λi b f=>hp i b (iP i _ f)⟩,hp⟩
 pre p W G ρ h:=h.2
 k8 p W G ρ h:=by obtain⟨⟨r,h1,c⟩,_⟩:=h;exact⟨r,c.k8⟩
theorem ak5(ps:List Nat)(vs:List Value)(tmps:Array Value):
  (((⟨ps⟩:Array Tmp).zip (⟨vs⟩:Array Value)).foldl (λtmps (x:Tmp×Value)=>match x with|(t,a)=>tmps.setIfInBounds t a) tmps)=nW tmps ps vs:=akS ps vs tmps
theorem ak6{an:ey}{m:fh}{x y:Code}{l1 l2 M wh:List (List Nat×List Nat)}{d g:eL}(K:dv P an nt m x l1=some (d,l2))(au:dv P an nt m y M=some (g,wh))(Z:kY d=true)(x9:kY g=true)
  {r0:Loop} {st0:ag} (ao:st0.bM=λ_=>none) (t:r0.state=.ready) (k:r0.pending=none) (w:r0.tmps=a.tmps) {ps:List Nat} (E:r0.params=⟨ps⟩) (C:r0.assign=x) (z:r0.body=y) (N:∀p,p∈ps->p<a.tmps.size) (L:nt<=a.tmps.size) (n:Nat):
  CN P gl (Kept w0 G0 ρ0 a st0.aR r0) (sh (bA P gl) (run (bA P gl) gl d) (run (bA P gl) gl g) ps st0) (w0.heap.size+1) n:=by
 intro W G ρ s vs u Y S V dn X;obtain⟨⟨r,v,l⟩,vP⟩:=S;obtain rfl:=v.none t k;have U:u.length=ps.length:=by
  have:=X.1;simp_all
 have ad:=dn.length.trans U;refine⟨r.fn,_,r.assign,r.body,run_yield l.k8 az8,?_⟩;have F:sh (bA P gl) (run (bA P gl) gl d) (run (bA P gl) gl g) ps ⟨st0.aR,λ_=>none,s⟩ u s Y:=by
  grind[sh]
 have:=akT (n:=n) (f:=r.fn) K au Z x9 t k l V N L dn F;rw[E,w,C,z,ak5];refine this.mono ?_;rintro e dH ⟨c,G',ρ',s',rfl,h1,B,H,A,J,o,Q⟩;refine⟨c.bind x8,G',ρ',s',?_,⟨⟨_,⟨c,rfl,h1,rfl⟩,B⟩,λi b R=>o i b (vP i b R)⟩,H,A,J,o,Q⟩;cases c with
 |none=>rfl
 |some j=>
  have:=h1 j rfl;simp;cases aI:x8 j with
  |none=>grind
  |some _=>rfl
theorem RZ{j:Nat->ah}{r:Loop}{d:Act}{f:Func}{tmps:Array Value}{R:Ending->World->Prop}:∀(a:List Nat) {w:World},b2 gl w G ρ lam tmps st->Still w0 G0 ρ0 d j r w G ρ->Marks (w0.heap.size+2) w G (a.map mark)->
  (∀w,b2 gl w G ρ lam tmps st->Still w0 G0 ρ0 d j r w G ρ->∃v,(results f tmps).run P w=.ok v w/\R (.returned v) w)->LeavesInM Fence.wide 0 P f tmps R (a.map mark) .returning w
 |[],w,p,g,_,h=>h w p g
 |D::a,w,p,g,hm,h=>by
  obtain⟨h1,A,c,n,s⟩:=hm.tail;refine⟨az7,.inl ⟨D,w.putObj D (.deferred none),rfl,run_takeDeferred c,?_⟩⟩;refine RZ a (p.putObj c rfl n) ?_ ?_ h
  .exact⟨λt=>(g.aR t).keep (sU c rfl) λ_ _ h=>h,⟨g.mr.good.putObj c rfl az6,g.mr.pre⟩,(aEP az6).trans g.k8,g.x7,(aEP az6).trans g.rH,g.Au⟩
  obtain⟨z,o,l,m⟩:=s;refine⟨z,o,l,λE u=> ?_⟩;obtain⟨f1,F,H⟩:=m E u;have C:E≠D:=by
   intro e;have k:mark E∈a.map mark:=az9;obtain⟨x,B,J⟩:=aCY.1 k;simp_all[mark]
  grind[World.putObj_heap_other]
theorem R0(vT:xU P gl){an:ey}{m:fh}{f:Operand}{ps:List Nat}{x y:Code}{l1 l2 eO wh:List (List Nat×List Nat)}{R S:eL}{K:aD->ag->Prop}
  (bn:dv P an nt m x l1=some (R,l2)) (au:dv P an nt m y eO=some (S,wh)) (rI:kY R=true) (x9:kY S=true)
  (gM:∀p,p∈ps->p<a.tmps.size) (p:b6 n0 gl nt w G ρ lam a st) (aq:n0<=w.heap.size) {g:Nat} {cs:List Value} {B:List ah} (bh:a.eval f=.func (.func g) #[] ⟨cs⟩) (gX:cu w G ρ cs B)
  (J:pQ (bA P gl) gl (run (bA P gl) gl R) (run (bA P gl) gl S) ps g B st K):(Code.rangeFunc f ⟨ps⟩ x y).wp P (kH n0 gl nt w G ρ K) a w:=by
 obtain⟨cQ,⟨d,aN,xy,tV,u⟩,Y,J⟩:=J;have Fx:gq P g:=by
  unfold vG at u;simp[aDt,aCL]at u;obtain⟨c,au,_⟩:=u;exact⟨d,xy,az8,tV⟩
 refine(aEQ (n:=1)).1 (wpIn_rangeFunc λfn _=> ?_);obtain⟨r,kC⟩:∃r:Loop,r={state:=.ready,pending:=none,fn,tmps:=a.tmps,params:=⟨ps⟩,assign:=x,body:=y,defers:=w.heap.size}:=⟨_,rfl⟩;obtain⟨hN,pk⟩:∃hN,hN=(w.alloc (.deferred (some []))).alloc (.loop r):=⟨_,rfl⟩;have R1:∀b L n,G b=some (L,n)->b<(w.alloc (.deferred (some []))).heap.size:=λb L n h=>by rw[World.size_alloc];have:=p.rel.lt b L n h;omega
 have E:de w G hN G:=by rw[pk];exact(KT (w:=w) (G:=G) (.deferred (some []))).trans (KT (w:=w.alloc (.deferred (some []))) (G:=G) (.loop r))
 have g1:Good w G hN G:=by rw[pk];exact(RT (w:=w) (.deferred (some [])) p.rel.lt).trans (RT (w:=w.alloc (.deferred (some []))) (.loop r) R1)
 have s1:∀L,e5 L L w G hN G:=λL b n au=>by
  rw[pk];exact⟨(RS (w:=w.alloc (.deferred (some []))) (.loop r) R1 L b n au).1.trans (RS (w:=w) (.deferred (some [])) p.rel.lt L b n au).1,au⟩
 have aP:hN.heap.size=w.heap.size+2:=az8;have R3:∀b,w.heap.size<=b->G b=none:=by
  intro b au;cases aF:G b with
  |none=>rfl
  |some q=>exact absurd (p.rel.lt b q.1 q.2 aF) (aDT.2 au)
 have z:Still w G ρ a st.lP.aR r hN G ρ:=by
  refine⟨λt=>(RR (p.rel.aR t)).keep E λ_ _ h=>h,⟨g1,λ_ _ h=>h⟩,?_,R3 _ az6,?_,R3 _ (aCw _)⟩;all_goals grind[World.alloc_heap_new,RowKit.Below.heap_alloc]
 have Fw:∀b L n,G b=some (L,n)->b<hN.heap.size:=λb L n h=>az9;refine⟨w.heap.size+1,[mark w.heap.size],hN,{target:=.fn (.func g) ⟨cs⟩,args:= #[.func (.yield (w.heap.size+1)) #[] #[]]},hN,g,⟨.func (.yield (w.heap.size+1)) #[] #[]::cs⟩,hN,?_,?_,λ_ _=>trivial,?_,λh=>az7,?_⟩
 .rw[pk,kC];exact run_enterLoop_outer _ _ _ _ _
 .simp[resolve,bh];simp[go_sem]
 .grind[invoke,Qj]
 ·
  unfold vG at u;simp only[aDt,aCL]at u;obtain⟨c,eh,⟨vc,bC⟩,yb,rs,Q,Z⟩:=u;simp at Z;subst Z;simp at Y;subst Y;refine callsIn_of_wp_marks (n:=0) xy eh trivial ?_;have ao:gK hN G (ρ++[w.heap.size+1+1]) (st.s++[.dead]):=by
   have bB:=p.rel.ob.b0 (w':=hN) (G':=G) E (λi=>s1 _) (λi j=>s1 _);refine⟨by simp[bB.1],λi b o au v=> ?_⟩;rcases aDo i st.s.length with hi|hi
   .rw[aDj hi]at v;rw[aDj (by rw[bB.1];omega)]at au;exact(bB.2 i b o au v).b0 (de.refl _ _) (λi b h=>iP i _ h) (λ_ _ h=>⟨rfl,h⟩) (λ_ _ _ h=>⟨rfl,h⟩)
   .rw[aDp hi]at v;have:i-st.s.length=0:=az9;rw[this]at v;simp at v;subst v;trivial
  have aM:cu hN G (ρ++[w.heap.size+1+1]) (.func (.yield (w.heap.size+1)) #[] #[]::cs) (.f' st.s.length::B):=by
   refine .cons _ _ _ _ (.f' _ _ ?_) (gX.keep E (λi b h=>iP i _ h));rw[<-p.rel.ob.1];simp
  have ai:b6 (w.heap.size+2) gl d.ntmps hN G (ρ++[w.heap.size+1+1]) (λ_=>none)
    {tmps:=(⟨.func (.yield (w.heap.size+1)) #[] #[]::cs⟩:Array Value)++Array.replicate (d.ntmps-(⟨.func (.yield (w.heap.size+1)) #[] #[]::cs⟩:Array Value).size) undef,defers:=[]}
    {aR:=sg (.f' st.s.length::B) 0,bM:=λ_=>none,s:=st.s++[.dead]}:=by
   refine⟨⟨?_,λt cs h=>az9,λ_ _=>rfl,ao,p.rel.eU.b0 E,Fw⟩,.nil,?_⟩
   .intro t;have h1:=Ke (n:=0) (t:=t) aM (aCu _);have k:(((⟨.func (.yield (w.heap.size+1)) #[] #[]::cs⟩:Array Value)++Array.replicate (d.ntmps-(⟨.func (.yield (w.heap.size+1)) #[] #[]::cs⟩:Array Value).size) undef).getD t undef)=((Value.func (.yield (w.heap.size+1)) #[] #[]::cs)[t-0]?).getD undef:=by
     rw[aDz,Array.getElem?_append,aFa];grind
    grind[dq.cz]
   grind
  have hO:Kept w G ρ a st.lP.aR r none hN G (ρ++[w.heap.size+1+1]):=by
   refine⟨⟨r,⟨none,az8,λj aI=>az8,rfl⟩,⟨z.aR,⟨z.mr.good,iP⟩,z.k8,z.x7,z.rH,z.Au⟩⟩,λ_ _ h=>h⟩
  have s5:(ρ++[w.heap.size+1+1])[st.s.length]?=some (w.heap.size+1+1):=aAz;have ar:=ak6 (w0:=w) (G0:=G) (ρ0:=ρ) (gl:=gl) (a:=a) bn au rI x9 (r0:=r) (st0:=st.lP) rfl az9 az9 az9 (ps:=ps) az9 az9 az9 gM p.sz 0;refine aEu (ak3 (n:=0) vT ar ak4 s5 c yb ai hO J) ?_;have ad:∀{e:Exit} {a':Act} {dH:World} (U:Option aD->aD),(∀p,U p=p.getD .normal)->rJ (w.heap.size+2) gl d.ntmps (Kept w G ρ a st.lP.aR r) (λBP p=>K (U p) {st.lP with s:=BP.s}) a' dH->
    LeavesInM Fence.wide 0 P d a'.tmps (rangePost Fence.wide 1 P (w.heap.size+1) (kH n0 gl nt w G ρ K) {a with defers:=[mark w.heap.size]++a.defers}) a'.defers .returning dH:=by
   intro e a' dH U Cl h;obtain⟨bG,G',ρ',lam',aU,p',V,cM,⟨⟨A,sy,dB⟩,gE⟩,C⟩:=h;obtain⟨hL,Kf,_,_⟩:=id V;rw[Kf]at V⊢;refine RZ hL cM dB V λya t3 X=> ?_;refine⟨.tuple #[],?_,?_⟩
   .have aE:d.results.toList=[]:=by
     unfold zB at Q;split at Q
     .simp_all
     .simp_all
     .have:=sF Q;generalize d.results.toList=l at this;cases this;rfl
    grind[FL,Sem.run_pure,Result.andThen_ok]
   .obtain⟨c,FA,z1,F⟩:=sy;have M:∀(H:ag->Prop),H {st.lP with s:=aU.s}->cP n0 gl nt w G ρ H {a with defers:=[mark w.heap.size]++a.defers} (ya.putObj (w.heap.size+1) (.loop {A with state:=.exhausted,pending:=c})):=by
     intro H hk;have k:=X.put {A with state:=.exhausted,pending:=c};have av:=X.RU t3.wd {A with state:=.exhausted,pending:=c};refine⟨p.sz,G',ρ',λ_=>none,_,?_,k.rel av,k.mr.good,k.mr.pre,hk⟩;obtain⟨xV,d1,d2,d3⟩:=p.eT;refine⟨w.heap.size::xV,az9,aF6.2 ⟨λhm=> ?_,d2⟩,λD N=> ?_⟩
     .grind
     .rcases aCJ.1 N with rfl|N
      .exact⟨aq,k.rH,k.Au⟩
      .obtain⟨f1,f2,f3⟩:=d3 D N;have ay:=(aC'.1 f2).1;obtain⟨i1,i2⟩:=k.mr.good.iN D ay (.inl f3);simp_all
    rw[Cl]at C;have aB:A.state≠.busy:=az9;have yc:=run_endLoop (P:=P) X.k8 aB;have Gd:A.pending=c:=az9;rw[Gd]at yc;refine⟨c,_,yc,?_⟩;cases c with
    |none=>
     simp at F;subst F;exact M (K .normal) C
    |some j=>
     simp[aFk]at F;subst F;have:=z1 j rfl;cases j<;>simp[x8,Option.isSome_none,aDq,Option.isSome_some]at this
     .exact wpIn_exit (M _ C)
     .exact wpIn_ret (M _ C)
  intro e a' dH h;cases e with
  |normal=>exact ad (e:=.normal) (λp=>p.getD .normal) (λ_=>rfl) h
  |ret=>exact ad (e:=.ret) (λp=>p.getD .normal) (λ_=>rfl) h
  |exit i=>obtain⟨_,_,_,_,_,_,_,_,_,h⟩:=h;exact h.elim
  |_=>exact h.elim
theorem alc(B:xU P gl):Ka P gl:=by
 intro n0 nt E m f o x y l H U w G ρ lam a st K k p v j;simp only[dv]at k;split at k
 .rename_i fo kv S R J z bn au;simp only[aFq,aCz,aC6,aCx]at k;obtain⟨⟨⟨A,C⟩,Q⟩,rfl,rfl⟩:=k;obtain⟨o⟩:=o;have s:∀p,p∈o->p<a.tmps.size:=λq aS=>aC2 az8 p.sz;simp[run]at j;obtain⟨L,n⟩:=dY z p.rel;split at j
  .rename_i g N he;rw[he]at n;have c:=n;generalize r:a.eval f=t at c;cases c with
   |func _ M cs _ _ u F=>
    cases u;grind[R0]
  .rename_i g he;rw[he]at n;have c:=n;generalize r:a.eval f=t at c;cases c with
   |d _ _ h=>
    cases h;exact R0 B bn au A C s p v r .nil j
  .exact j.elim
 simp_all
end
def aEU:=@Prod.ext
def aFd:=@Nat.lt_succ_self
abbrev Out:=Option (ah×aY)
def wj:Nat->(ag->(ag->Out)->Out)->ag->Out
 |0,_,_=>none
 |n+1,F,st=>F st λa=>wj n F a
def s6:Nat->ah->ah->Bool
 |n+1,.tuple a,.tuple b=>Nat.beq a.length b.length&&(a.zip b).all λp=>s6 n p.1 p.2
 |n+1,.agg a,.agg b=>Nat.beq a.length b.length&&(a.zip b).all λp=>s6 n p.1 p.2
 |_,a,b=>EH a b
def AE:cc->cc->Bool
 |.box a,.box b=>Nat.beq a.length b.length&&(a.zip b).all λp=>s6 depth p.1 p.2
 |.map a,.map b=>Nat.beq a.length b.length&&(a.zip b).all λp=>kU p.1.1 p.2.1&&s6 depth p.1.2 p.2.2
 |.dead,.dead=>true
 |.h' t e b,.h' d e' c=>Nat.beq t d&&Nat.beq e e'&&decide (b=c)
 |.sc a,.sc b=>decide (a=b)
 |_,_=>false
def CO(a b:ah×aY):Bool:=s6 depth a.1 b.1&&Nat.beq a.2.length b.2.length&&(a.2.zip b.2).all λp=>AE p.1 p.2
theorem CP{c:Type}{f:c->c->Bool}(d:∀a b,f a b=true->a=b):∀{l m:List c},(Nat.beq l.length m.length&&(l.zip m).all λp=>f p.1 p.2)=true->l=m
 |[],[],_=>rfl
 |[],_::_,h=>by simp at h
 |_::_,[],h=>by simp at h
 |a::l,b::m,h=>by
  simp at h;rw[d a b h.2.1,CP d (l:=l) (m:=m) az8]
theorem CQ:∀(n:Nat) (a b:ah),s6 n a b=true->a=b
 |0,a,b,h=>Kk (by simp_all[s6])
 |n+1,a,b,h=>by
  cases a<;>cases b<;>simp only[s6]at h<;>first
   |exact congrArg _ (CP (CQ n) h)
   |exact Kk h
theorem R4(a b:cc)(h:AE a b=true):a=b:=by
 unfold AE at h;split at h
 .rw[CP (CQ depth) h]
 .refine congrArg _ (CP (f:=λp q=>kU p.1 q.1&&s6 depth p.2 q.2) (λp q hp=> ?_) h);simp at hp;exact aEU (FQ hp.1) (CQ _ _ _ hp.2)
 all_goals simp_all
theorem alg{a b:ah×aY}(h:CO a b=true):a=b:=by
 unfold CO at h;rw[Bool.and_assoc,aCx]at h;exact aEU (CQ _ _ _ h.1) (CP R4 h.2)
def gi(tab:Nat->Option aW)(call:Nat->List ah->aY->Out)(d:Nat):mT Out where
 fail:=none
 guard b p:=cond b p none
 call f args s K:=match call f args s with
  |some (r,j)=>K r j
  |none=>none
 fix F st:=wj d F st
 both p q:=match p,q with
  |some a,some b=>cond (CO a b) (some a) none
  |_,_=>none
 iter g k:=match tab g with
  |some c=>k c
  |none=>none
def exec(tab:Nat->Option aW)(gl:Nat->List D)(a:Nat):Nat->Nat->List ah->aY->Out
 |0,_,_,_=>none
 |n+1,f,args,s=>match tab f with
  |some c=>mf (gi tab (exec tab gl a n) a) gl c args s λr d=>some (r,d)
  |none=>none
section
variable {P:Program}{gl:Nat->List D}{tab:Nat->Option aW}{call:Nat->List ah->aY->Out}{fuel:Nat}{x:ah×aY}
theorem a6.hB{f:Nat}{a:aW}{args:List ah}{s s':aY}{r:ah}(h:a6 P f a)(g:mf (bA P gl) gl a args s λc d=>c=r/\d=s'):bD P gl f args s r s':=by
 obtain⟨m,k,h1,j,l⟩:=h;grind[aiT,akO,alc]
theorem a6.of{f:Nat}{g:aW}(an:ey)(h1:(P.funcs[f]?).map (λa=>a.name== "runtime.NumGoroutine")=some false)(c:(P.funcs[f]?).bind (vG P an)=some g):a6 P f g:=by
 cases d:P.funcs[f]? with
 |none=>simp_all
 |some a=>
  rw[d]at h1 c;exact⟨a,an,d,az8,c⟩
theorem jJ(b:Bool)(p:Out):(gi tab call fuel).guard b p=some x↔b=true/\p=some x:=by
 grind[gi]
theorem alh{p q:Out}(h:(gi tab call fuel).both p q=some x):p=some x/\q=some x:=by
 simp[gi]at h;split at h
 .rename_i a b;cases au:CO a b with
  |true=>
   rw[au]at h;grind[alg]
  |false=>simp_all
 simp_all
theorem il:((gi tab call fuel).fail=some x)=False:=by simp[gi]
def hP(P:Program)(gl:Nat->List D)(d:Nat->List ah->aY->Out):Prop:=∀f a s r c,d f a s=some (r,c)->bD P gl f a s r c
theorem ali(n:hP P gl call){f:Nat}{args:List ah}{s:aY}{K:ah->aY->Out}{K':ah->aY->Prop}(l:∀r s,K r s=some x->K' r s)(h:lp (gi tab call fuel) f args s K=some x):
  lp (bA P gl) f args s K':=by
 unfold lp at h⊢;rw[jJ]at h;obtain⟨h1,k⟩:=h;refine⟨h1,?_⟩;have:∀{g:List ah} {j:aY} {d:ah->aY->Out},(gi tab call fuel).call f g j d=some x->∃r a,call f g j=some (r,a)/\d r a=some x:=by
  grind[gi]
 obtain⟨r,a,m,c⟩:=this k;rw[jJ]at c;exact⟨r,a,n _ _ _ _ _ m,c.1,l _ _ c.2⟩
theorem K1{nw rw:Bool}{d s:Nat}{y:O}{sz f:Nat}{st:ag}{K:ag->Out}{K':ag->Prop}(c:∀st,K st=some x->K' st)(h:hT (gi tab call fuel) gl nw rw d s y sz f st K=some x):hT (bA P gl) gl nw rw d s y sz f st K':=by
 unfold hT at h⊢;split at h
 .rename_i g l e;cases au:(nw&&l.isEmpty)with
  |true=>
   rw[au]at h;split at h
   .simp_all
   .cases rw with
    |true=>
     simp at h⊢;split at h
     .rw[jJ]at h;exact⟨h.1,c _ h.2⟩
     grind[il]
    |false=>
     simp at h⊢;rw[jJ]at h;exact⟨h.1,c _ h.2⟩
   grind[il]
  |false=>
   rw[au]at h;simp at h⊢;split at h
   .rw[jJ]at h;exact⟨h.1,c _ h.2⟩
   grind[il]
 .split at h
  .split at h
   .rw[jJ]at h;exact⟨h.1,c _ h.2⟩
   grind[il]
  grind[il]
 .rename_i i off len cap g e;split at h
  .rename_i cs us k m j;rw[jJ]at h;refine⟨h.1,?_⟩;have a:=h.2;cases au:Nat.ble (len+k) cap with
   |true=>rw[au]at a;simp at a⊢;rw[jJ]at a;exact⟨a.1,c _ a.2⟩
   |false=>rw[au]at a;simp at a⊢;rw[jJ]at a;exact⟨a.1,c _ a.2⟩
  grind[il]
 .split at h
  .rw[jJ]at h;exact⟨h.1,c _ h.2⟩
  grind[il]
 grind[il]
theorem CR(o:hP P gl call){i:I}{st:ag}{K:ag->Out}{K':ag->Prop}(g:∀st,K st=some x->K' st)(h:step (gi tab call fuel) gl i st K=some x):step (bA P gl) gl i st K':=by
 cases i;case cl d f xs=>
  simp[step]at h⊢;grind[ali,il]
 case dU d c a b=>
  simp[step]at h⊢;grind[il]
 case mS d neg m y=>
  match m with
  |0=>
   simp[step]at h⊢;split at h
   .simp_all
   .have k:=alh h;exact⟨g _ k.1,g _ k.2⟩
   grind[il]
  |1|2|3|4=>
   simp[step]at h⊢;grind[il]
  |n+5=>simp_all[step,il]
 case ap d s y sz j=>exact K1 g h
 case nF d s y sz j=>exact K1 g h
 case nG d s y sz j=>exact K1 g h
 all_goals (simp only[step]at h)
 all_goals (try simp only[step])
 all_goals (repeat' split at h)
 all_goals first
  |(rw[il]at h;simp_all)
  |exact g _ h
  |(simp;exact g _ h)
  |(rw[jJ]at h;exact⟨h.1,g _ h.2⟩)
  |(rw[jJ]at h;have h1:=h.1;have l:=g _ h.2;simp;done)
  |(simp[jJ]at h;have h1:=h.1;have l:=h.2.1;simp_all[iE])
  |simp_all[jJ,il]
theorem CS(c:hP P gl call):∀{l:List cm} {st:ag} {K:ag->Out} {K':ag->Prop},(∀st,K st=some x->K' st)->steps (gi tab call fuel) gl l st K=some x->steps (bA P gl) gl l st K'
 |[],st,K,K',a,h=>a _ h
 |⟨none,i⟩::l,st,K,K',a,h=>CR c (λst h=>CS c a h) h
 |⟨some (s,want),i⟩::l,st,K,K',a,h=>by
  simp only[steps]at h⊢;split at h
  .rename_i b e;cases au:cond want b (!b)with
   |true=>rw[au]at h;simp at h⊢;exact CR c (λst h=>CS c a h) h
   |false=>rw[au]at h;exact CS c a h
  .rename_i e;exact CS c a h
  .rw[il]at h;exact h.elim
theorem alj(c:hP P gl call){g:cm}{st:ag}{K:ag->Out}{K':ag->Prop}(a:∀st,K st=some x->K' st)(h:step1 (gi tab call fuel) gl g st K=some x):step1 (bA P gl) gl g st K':=by
 unfold step1 at h⊢;split at h
 .grind[CR]
 .split at h
  .rename_i b e;cases au:cond _ b (!b)with
   |true=>grind[CR]
   |false=>simp_all
  all_goals grind[il]
theorem alk(d:hP P gl call){a:Nat}{g:cm}{st:ag}{K:ag->Out}{K':ag->Prop}(c:∀st,K st=some x->K' st)(h:kV (gi tab call fuel) gl a g st K=some x):kV (bA P gl) gl a g st K':=by
 unfold kV at h⊢;cases bn:ic g.i with
 |true=>
  rw[bn]at h;simp at h⊢;split at h
  .rw[jJ]at h;exact⟨h.1,c _ h.2⟩
  grind[il]
 |false=>
  grind[alj]
theorem R6(f:hP P gl call):∀{l:List cm} {c:List (List Nat)} {acc:List (cm×ju)} {d:Nat} {st:ag} {K:ag->Out} {K':ag->Prop},(∀st,K st=some x->K' st)->q2 (gi tab call fuel) gl l c acc d st K=some x->q2 (bA P gl) gl l c acc d st K'
 |[],_,_,_,_,_,_,a,h=>a _ h
 |g::l,c,acc,d,st,K,K',a,h=>by
  refine alk f (λj h=> ?_) h;rw[jJ]at h;exact⟨h.1,R6 f a h.2⟩
theorem R7(d:hP P gl call){l:List cm}{a:List (List Nat)}{st:ag}{K:ag->Out}{K':ag->Prop}(c:∀st,K st=some x->K' st)(h:q3 (gi tab call fuel) gl l a st K=some x):q3 (bA P gl) gl l a st K':=R6 d c h
theorem Gg{n:Nat}{ts a:List Nat}{st:ag}{K:ag->Out}{K':ag->Prop}(c:∀st,K st=some x->K' st)(h:forget (gi tab call fuel) n ts a st K=some x):forget (bA P gl) n ts a st K':=by
 unfold forget at h⊢;rw[jJ]at h;exact⟨h.1,c _ h.2⟩
def wk(P:Program)(tab:Nat->Option aW):Prop:=∀f a,tab f=some a->a6 P f a
theorem R8(t:hP P gl call){Y:jb Out}{c:jb Prop}(r:∀vs s k l,(∀p s,k p s=some x->l p s)->Y vs s k=some x->c vs s l){yi:Nat}{i:I}{st:ag}{pp:Option aD}{K:ag->Option aD->Out}{K':ag->Option aD->Prop}
  (n:∀st p,K st p=some x->K' st p) (h:mV (gi tab call fuel) gl Y yi i st pp K=some x):mV (bA P gl) gl c yi i st pp K':=by
 rcases KV (gl:=gl) (yi:=yi) (A:=gi tab call fuel) (Y:=Y) (i:=i) (st:=st) (pp:=pp) (K:=K)with⟨j,d,f,args,rfl,g,he⟩|he
 .rw[he,jJ]at h;simp[mV,BO,g];refine⟨h.1,?_⟩;have a:=h.2;unfold BN at a⊢;rw[jJ]at a;exact⟨a.1,r _ _ _ _ (λp s o=>n _ _ o) a.2⟩
 .rcases KV (gl:=gl) (yi:=yi) (A:=bA P gl) (Y:=c) (i:=i) (st:=st) (pp:=pp) (K:=K')with⟨j,d,f,args,rfl,g,m⟩|m
  .simp_all[step,il]
  grind[CR]
theorem CT(c:hP P gl call){Y:jb Out}{g:jb Prop}(d:∀vs s f j,(∀p s,f p s=some x->j p s)->Y vs s f=some x->g vs s j){yi:Nat}:
  ∀{l:List cm} {st:ag} {pp:Option aD} {K:ag->Option aD->Out} {K':ag->Option aD->Prop},(∀st p,K st p=some x->K' st p)->ie (gi tab call fuel) gl Y yi l st pp K=some x->ie (bA P gl) gl g yi l st pp K'
 |[],st,pp,K,K',a,h=>a _ _ h
 |⟨none,i⟩::l,st,pp,K,K',a,h=>R8 c d (λst p h=>CT c d a h) h
 |⟨some (s,want),i⟩::l,st,pp,K,K',a,h=>by
  simp only[ie]at h⊢;split at h
  .rename_i b e;cases au:cond want b (!b)with
   |true=>rw[au]at h;exact R8 c d (λst p h=>CT c d a h) h
   |false=>rw[au]at h;exact CT c d a h
  .rename_i e;exact CT c d a h
  .rw[il]at h;exact h.elim
theorem alm(g:hP P gl call){Y:jb Out}{m:jb Prop}(r:∀vs s j o,(∀p s,j p s=some x->o p s)->Y vs s j=some x->m vs s o){yi:Nat}:
  ∀{c:eL} {st:ag} {pp:Option aD} {K:aD->ag->Option aD->Out} {K':aD->ag->Option aD->Prop},(∀e st p,K e st p=some x->K' e st p)->hx (gi tab call fuel) gl Y yi c st pp K=some x->hx (bA P gl) gl m yi c st pp K':=by
 intro c;induction c with
 |skip=>intro st pp K K' d h;exact d _ _ _ h
 |ops l=>intro st pp K K' d h;exact CT g r (λst p h=>d _ _ _ h) h
 |any l v=>intro st pp K K' d h;exact R7 g (λst h=>d _ _ _ h) h
 |bad=>grind[hx,il]
 |seq a b k t=>
  intro st pp K K' d h;refine k (λe st p h=> ?_) h;grind
 |cond c a b k t=>
  grind[hx,il]
 |block i b ih=>
  intro st pp K K' d h;refine ih (λe st p h=> ?_) h;grind
 |loop ts bs b ih=>
  intro st pp K K' d h;simp[hx]at h⊢;rw[jJ]at h;refine⟨h.1,Gg (λw h=> ?_) h.2⟩;refine⟨λn st=>wj n (λf u=>hx (gi tab call fuel) gl Y yi b f none λx st p=>match x with
   |.normal=>(gi tab call fuel).guard p.isNone (forget (gi tab call fuel) f.s.length ts bs st u)
   |x=>K x st p) st=some x,fuel,h,?_⟩
  intro n f h1;cases n with
  |zero=>grind[wj]
  |succ n=>
   refine ih (λe st p h=> ?_) h1;cases e with
   |normal=>rw[jJ]at h;exact⟨h.1,Gg (λst h=>⟨n,aFd n,h⟩) h.2⟩
   |exit i=>simp_all
   |ret=>simp_all
 |iy y ps a b _ _=>grind[hx,il]
 |exit i=>intro st pp K K' d h;exact d _ _ _ h
 |ret=>intro st pp K K' d h;exact d _ _ _ h
theorem aln(n:hP P gl call)(m:wk P tab){d c:ag->(aD->ag->Out)->Out}{f j:ag->(aD->ag->Prop)->Prop}(o:∀st K K',(∀e st,K e st=some x->K' e st)->d st K=some x->f st K')
  (au:∀st K K',(∀e st,K e st=some x->K' e st)->c st K=some x->j st K') {ps:List Nat} {g:Nat} {k:List ah} {st:ag} {K:aD->ag->Out} {K':aD->ag->Prop} (u:∀e st,K e st=some x->K' e st)
  (h:pQ (gi tab call fuel) gl d c ps g k st K=some x):pQ (bA P gl) gl f j ps g k st K':=by
 unfold pQ at h⊢;simp[gi]at h;split at h
 .rename_i r l;change (gi tab call fuel).guard _ (hx (gi tab call fuel) gl (sh (gi tab call fuel) d c ps st.lP) _ _ _ _ _)=some x at h;rw[jJ]at h;refine⟨r,m _ _ l,h.1,alm n (λz s v w A a=> ?_) (λe st p t=> ?_) h.2⟩
  .unfold sh at a⊢;rw[jJ]at a;refine⟨a.1,o _ _ _ (λe st t=> ?_) a.2⟩;grind[il]
  grind
 simp_all
theorem alo(j:hP P gl call)(o:wk P tab):∀{c:eL} {st:ag} {K:aD->ag->Out} {K':aD->ag->Prop},(∀e st,K e st=some x->K' e st)->run (gi tab call fuel) gl c st K=some x->run (bA P gl) gl c st K':=by
 intro c;induction c with
 |skip=>intro st K K' d h;exact d _ _ h
 |ops l=>intro st K K' d h;exact CS j (λst h=>d _ _ h) h
 |any l p=>intro st K K' d h;exact R7 j (λst h=>d _ _ h) h
 |bad=>grind[run,il]
 |seq a b f k=>
  intro st K K' d h;refine f (λe st h=> ?_) h;grind
 |cond c a b f k=>
  grind[run,il]
 |block i b ih=>
  intro st K K' d h;refine ih (λe st h=> ?_) h;grind
 |loop ts bs b ih=>
  intro st K K' d h;refine Gg (λr h=> ?_) h;refine⟨λn st=>wj n (λg m=>run (gi tab call fuel) gl b g λx st=>match x with
   |.normal=>forget (gi tab call fuel) g.s.length ts bs st m
   |x=>K x st) st=some x,fuel,h,?_⟩
  intro n g h1;cases n with
  |zero=>grind[wj]
  |succ n=>
   refine ih (λe st h=> ?_) h1;cases e with
   |normal=>exact Gg (λst h=>⟨n,aFd n,h⟩) h
   |exit i=>simp_all
   |ret=>simp_all
 |iy y ps a b f k=>
  grind[run,aln,il]
 |exit i=>intro st K K' d h;exact d _ _ h
 |ret=>intro st K K' d h;exact d _ _ h
theorem Sc(j:hP P gl call)(f:wk P tab){c:aW}{args:List ah}{s:aY}{K:ah->aY->Out}{K':ah->aY->Prop}(g:∀r s,K r s=some x->K' r s)(h:mf (gi tab call fuel) gl c args s K=some x):
  mf (bA P gl) gl c args s K':=by
 refine alo j f (λe a h=> ?_) h;have k:∀{a:ag},(match q4 a c.res with
   |some r=>(gi tab call fuel).guard (eo depth r) (K r (gc s.length r a.s))
   |none=>(gi tab call fuel).fail)=some x->(match q4 a c.res with
   |some r=>(bA P gl).guard (eo depth r) (K' r (gc s.length r a.s))
   |none=>(bA P gl).fail):=by
  intro a h;cases d:q4 a c.res with
  |some r=>rw[d]at h;rw[jJ]at h;exact⟨h.1,g _ _ h.2⟩
  |none=>grind[il]
 grind[il]
theorem axR(a:wk P tab):∀n,hP P gl (exec tab gl fuel n):=by
 intro n;induction n with
 |zero=>intro f c s r g h;grind[exec]
 |succ n ih=>
  intro f c s r g h;simp[exec]at h;split at h
  .rename_i d hv;refine(a f d hv).hB (Sc ih a (λk j bB=> ?_) h);simp_all
  simp_all
def CU(ext:Nat->List ah->aY->Out)(tab:Nat->Option aW)(gl:Nat->List D)(a:Nat):Nat->Nat->List ah->aY->Out
 |0,_,_,_=>none
 |n+1,f,args,s=>match ext f args s with
  |some r=>some r
  |none=>match tab f with
   |some c=>mf (gi tab (CU ext tab gl a n) a) gl c args s λr d=>some (r,d)
   |none=>none
theorem alp{ext:Nat->List ah->aY->Out}(g:hP P gl ext)(a:wk P tab):∀n,hP P gl (CU ext tab gl fuel n):=by
 intro n;induction n with
 |zero=>intro f c s r j h;grind[CU]
 |succ n ih=>
  intro f c s r j h;simp[CU]at h;split at h
  .rename_i q aS;rw[h]at aS;exact g _ _ _ _ _ aS
  .split at h
   .rename_i d hv;refine(a f d hv).hB (Sc ih a (λl k bB=> ?_) h);simp_all
   simp_all
end
def fR(P:Program)(gl:Nat->List D):mT Prop where
 fail:=False
 guard b p:=b=true/\p
 call f args s K:=∃r c,bD P gl f args s r c/\K r c
 fix F st:=∃(I:Nat->ag->Prop) (n:Nat),I n st/\∀n st,I n st->F st λd=>∃m,m<n/\I m d
 both _ _:=False
 iter g k:=∃a,a6 P g a/\k a
def hQ(P:Program)(gl:Nat->List D)(bt:Prop->Prop->Prop):mT Prop where
 fail:=False
 guard b p:=b=true/\p
 call f args s K:=∃r c,bD P gl f args s r c/\K r c
 fix F st:=∃(I:Nat->ag->Prop) (n:Nat),I n st/\∀n st,I n st->F st λd=>∃m,m<n/\I m d
 both:=bt
 iter g k:=∃a,a6 P g a/\k a
section
variable {P:Program}{gl:Nat->List D}{bt:Prop->Prop->Prop}
theorem axS(b:Bool)(p:Prop):(hQ P gl bt).guard b p=(b=true/\p):=rfl
theorem axT:(fR P gl).fail=False:=rfl
theorem axU(b:Bool)(p:Prop):(fR P gl).guard b p=(b=true/\p):=rfl
theorem axV(p q:Prop):(fR P gl).both p q=False:=rfl
theorem Sd{f:Nat}{args:List ah}{s:aY}{K:ah->aY->Prop}(h:lp (fR P gl) f args s K):
  ∃r s',K r s'/\∀K':ah->aY->Prop,K' r s'->lp (hQ P gl bt) f args s K':=by
 obtain⟨h1,r,s',c,g,a⟩:=h;exact⟨_,_,a,λK' d=>⟨h1,r,s',c,g,d⟩⟩
theorem K2{nw rw:Bool}{d s:Nat}{y:O}{sz j:Nat}{st:ag}{K:ag->Prop}(h:hT (fR P gl) gl nw rw d s y sz j st K):∃g,K g/\∀K':ag->Prop,K' g->hT (hQ P gl bt) gl nw rw d s y sz j st K':=by
 unfold hT at h⊢;split at h
 .rename_i n l e;cases au:(nw&&l.isEmpty)with
  |true=>
   rw[au]at h;split at h
   .grind
   .cases rw with
    |true=>
     split at h
     .obtain⟨h1,a⟩:=h;exact⟨_,a,λK' c=>⟨h1,c⟩⟩
     .exact h.elim
    |false=>
     obtain⟨h1,a⟩:=h;exact⟨_,a,λK' c=>⟨h1,c⟩⟩
   .exact h.elim
  |false=>
   rw[au]at h;simp at h⊢;split at h
   .obtain⟨h1,a⟩:=h;exact⟨_,a,λK' c=>⟨h1,c⟩⟩
   .exact h.elim
 .split at h
  .split at h
   .obtain⟨h1,a⟩:=h;exact⟨_,a,λK' c=>⟨h1,c⟩⟩
   .exact h.elim
  .exact h.elim
 .rename_i i off len cap n e;split at h
  .rename_i cs us k r p;obtain⟨h1,h⟩:=h;cases au:Nat.ble (len+k) cap with
   |true=>rw[au]at h;obtain⟨a,f⟩:=h;exact⟨_,f,λK' c=>⟨h1,a,c⟩⟩
   |false=>rw[au]at h;obtain⟨a,f⟩:=h;exact⟨_,f,λK' c=>⟨h1,a,c⟩⟩
  .exact h.elim
 .split at h
  .obtain⟨m,h⟩:=h;exact⟨_,h,λK' o=>⟨m,o⟩⟩
  .exact h.elim
 .exact h.elim
theorem CV{i:I}{st:ag}{K:ag->Prop}(h:step (fR P gl) gl i st K):∃l,K l/\∀K':ag->Prop,K' l->step (hQ P gl bt) gl i st K':=by
 cases i;case cl d f xs=>
  simp[step]at h⊢;split at h
  .rename_i e;obtain⟨r,n,h1,g⟩:=Sd h;exact⟨_,h1,λK' j=>by first|exact g _ j|(exact g _ j)⟩
  .rename_i e;obtain⟨r,n,h1,g⟩:=Sd h;exact⟨_,h1,λK' j=>by first|exact g _ j|(exact g _ j)⟩
  .exact h.elim
 case dU d c a b=>
  simp[step]at h⊢;split at h
  .grind
  .exact h.elim
 case ap d s y sz m=>exact K2 h
 case nF d s y sz m=>exact K2 h
 case nG d s y sz m=>exact K2 h
 all_goals (simp only[step]at h)
 all_goals (try simp only[step])
 all_goals (repeat' split at h)
 all_goals first
  |exact h.elim
  |exact⟨_,h,λK' j=>j⟩
  |(refine⟨_,h,λK' j=> ?_⟩;simp_all)
  |(obtain⟨h1,g⟩:=h;exact⟨_,g,λK' j=>⟨h1,j⟩⟩)
  |(obtain⟨h1,g⟩:=h;exact g.elim)
  |(obtain⟨h1,g⟩:=h;refine⟨_,g,λK' j=> ?_⟩;done)
  |(obtain⟨h1,g,k⟩:=h;exact⟨_,k,λK' j=>⟨h1,g,j⟩⟩)
  |(obtain⟨h1,g,k⟩:=h;refine⟨_,k,λK' j=> ?_⟩;done)
  |(obtain⟨h1,g,k⟩:=h;exact k.elim)
theorem CW:∀{l:List cm} {st:ag} {K:ag->Prop},steps (fR P gl) gl l st K->∃j,K j/\∀K':ag->Prop,K' j->steps (hQ P gl bt) gl l st K'
 |[],st,K,h=>⟨st,h,λK' a=>a⟩
 |⟨none,i⟩::l,st,K,h=>by
  obtain⟨k,h1,d⟩:=CV h;obtain⟨g,f,c⟩:=CW h1;exact⟨g,f,λK' a=>d _ (c _ a)⟩
 |⟨some (s,want),i⟩::l,st,K,h=>by
  simp only[steps]at h⊢;split at h
  .rename_i b e;cases au:cond want b (!b)with
   |true=>
    rw[au]at h;simp at h⊢;obtain⟨k,h1,d⟩:=CV h;obtain⟨g,f,c⟩:=CW h1;exact⟨g,f,λK' a=>d _ (c _ a)⟩
   |false=>simp_all[CW]
  .simp_all[CW]
  .exact h.elim
theorem alq{g:cm}{st:ag}{K:ag->Prop}(h:step1 (fR P gl) gl g st K):∃a,K a/\∀K':ag->Prop,K' a->step1 (hQ P gl bt) gl g st K':=by
 unfold step1 at h⊢;split at h
 .exact CV h
 .split at h
  .rename_i b e;cases au:cond _ b (!b)with
   |true=>simp_all[CV]
   |false=>grind
  .grind
  .exact h.elim
theorem alr{c:Nat}{g:cm}{st:ag}{K:ag->Prop}(h:kV (fR P gl) gl c g st K):∃a,K a/\∀K':ag->Prop,K' a->kV (hQ P gl bt) gl c g st K':=by
 unfold kV at h⊢;cases bn:ic g.i with
 |true=>
  rw[bn]at h;split at h
  .obtain⟨h1,d⟩:=h;exact⟨_,d,λK' f=>⟨h1,f⟩⟩
  .exact h.elim
 |false=>
  simp_all[alq]
theorem Se:∀{l:List cm} {c:List (List Nat)} {acc:List (cm×ju)} {d:Nat} {st:ag} {K:ag->Prop},q2 (fR P gl) gl l c acc d st K->∃f,K f/\∀K':ag->Prop,K' f->q2 (hQ P gl bt) gl l c acc d st K'
 |[],_,_,_,st,_,h=>⟨st,h,λK' a=>a⟩
 |g::l,c,acc,d,st,K,h=>by
  obtain⟨p,⟨h1,k⟩,m⟩:=alr h;obtain⟨o,j,n⟩:=Se k;exact⟨o,j,λK' a=>m _ ⟨h1,n _ a⟩⟩
theorem Sf{l:List cm}{c:List (List Nat)}{st:ag}{K:ag->Prop}(h:q3 (fR P gl) gl l c st K):∃a,K a/\∀K':ag->Prop,K' a->q3 (hQ P gl bt) gl l c st K':=Se h
def Gh(F:(ag->Prop)->(aD->ag->Prop)->ag->Prop)(e:aD)(c:ag):Nat->ag->Prop
 |0,_=>False
 |k+1,st=>∀(K:aD->ag->Prop) (R:ag->Prop),K e c->(∀a,Gh F e c k a->R a)->F R K st
def Gi(Y g:jb Prop):Prop:=∀f s a,Y f s a->∃p d,a p d/\∀c,c p d->g f s c
theorem Sg{Y g:jb Prop}(m:Gi Y g){yi:Nat}{i:I}{st:ag}{p:Option aD}{K:ag->Option aD->Prop}(h:mV (fR P gl) gl Y yi i st p K):
  ∃a f,K a f/\∀K':ag->Option aD->Prop,K' a f->mV (hQ P gl bt) gl g yi i st p K':=by
 unfold mV at h⊢;split at h
 .rename_i e;obtain⟨h1,c,k⟩:=h;obtain⟨f,n,j,l⟩:=m _ _ _ k;exact⟨_,_,j,λK' d=>⟨h1,c,l _ d⟩⟩
 .rename_i aq;obtain⟨a,h1,c⟩:=CV h;exact⟨a,p,h1,λK' d=>c _ d⟩
theorem CX{Y n:jb Prop}(a:Gi Y n){yi:Nat}:∀{l:List cm} {st:ag} {p:Option aD} {K:ag->Option aD->Prop},ie (fR P gl) gl Y yi l st p K->
  ∃m o,K m o/\∀K':ag->Option aD->Prop,K' m o->ie (hQ P gl bt) gl n yi l st p K'
 |[],st,p,K,h=>⟨st,p,h,λK' c=>c⟩
 |⟨none,i⟩::l,st,p,K,h=>by
  obtain⟨t,r,h1,f⟩:=Sg a h;obtain⟨k,j,g,d⟩:=CX a h1;exact⟨k,j,g,λK' c=>f _ (d _ c)⟩
 |⟨some (s,want),i⟩::l,st,p,K,h=>by
  simp only[ie]at h⊢;split at h
  .rename_i b e;cases au:cond want b (!b)with
   |true=>
    rw[au]at h;obtain⟨t,r,h1,f⟩:=Sg a h;obtain⟨k,j,g,d⟩:=CX a h1;exact⟨k,j,g,λK' c=>f _ (d _ c)⟩
   |false=>rw[au]at h;exact CX a h
  .rename_i e;exact CX a h
  .exact h.elim
def Gj(F:(ag->Prop)->(aD->ag->Option aD->Prop)->ag->Prop)(e:aD)(d:ag)(c:Option aD):Nat->ag->Prop
 |0,_=>False
 |k+1,st=>∀(K:aD->ag->Option aD->Prop) (R:ag->Prop),K e d c->(∀a,Gj F e d c k a->R a)->F R K st
theorem als{Y z:jb Prop}(S:Gi Y z){yi:Nat}:∀{c:eL} {st:ag} {p:Option aD} {K:aD->ag->Option aD->Prop},hx (fR P gl) gl Y yi c st p K->
  ∃e r A,K e r A/\∀K':aD->ag->Option aD->Prop,K' e r A->hx (hQ P gl bt) gl z yi c st p K':=by
 intro c;induction c with
 |skip=>intro st p K h;exact⟨_,_,_,h,λK' d=>d⟩
 |ops l=>intro st p K h;obtain⟨r,A,h1,f⟩:=CX S h;exact⟨_,_,_,h1,λK' d=>f _ d⟩
 |any l dF=>intro st p K h;obtain⟨r,h1,f⟩:=Sf h;exact⟨_,_,_,h1,λK' d=>f _ d⟩
 |bad=>intro st p K h;exact h.elim
 |seq a b E C=>
  intro st p K h;obtain⟨e,g,o,h1,f⟩:=E h;cases e with
  |normal=>
   obtain⟨H,v,u,t,s⟩:=C h1;exact⟨H,v,u,t,λK' d=>f _ (s _ d)⟩
  |exit i=>exact⟨_,_,_,h1,λK' d=>f _ d⟩
  |ret=>exact⟨_,_,_,h1,λK' d=>f _ d⟩
 |cond c a b E C=>
  intro st p K h;simp[hx]at h⊢;split at h
  .grind
  .exact h.elim
 |block i b ih=>
  intro st p K h;obtain⟨e,g,o,h1,f⟩:=ih h;cases e with
  |normal=>exact⟨_,_,_,h1,λK' d=>f _ d⟩
  |ret=>exact⟨_,_,_,h1,λK' d=>f _ d⟩
  |exit j=>
   simp only at h1;cases au:Nat.beq j i with
   |true=>rw[au]at h1;exact⟨_,_,_,h1,λK' d=>f _ az8⟩
   |false=>rw[au]at h1;exact⟨_,_,_,h1,λK' d=>f _ az8⟩
 |loop ts bs b ih=>
  intro st p K h;obtain⟨hp,M,I,n,bB,Z⟩:=h;obtain⟨F,L⟩:∃F:(ag->Prop)->(aD->ag->Option aD->Prop)->ag->Prop,F=λR K g=>hx (hQ P gl bt) gl z yi b g none λx st p=>match x with
   |.normal=>(hQ P gl bt).guard p.isNone (forget (hQ P gl bt) g.s.length ts bs st R)
   |x=>K x st p:=⟨_,rfl⟩
  have U:∀n st,I n st->∃e g o k,K e g o/\Gj F e g o k st:=by
   intro n;induction n using Nat.strongRecOn with
   |_ n G=>
    intro st J;obtain⟨x,v,u,h1,f⟩:=ih (Z n st J);cases x with
    |normal=>
     obtain⟨V,Q,m,N,X⟩:=h1;obtain⟨e,g,o,k,t,s⟩:=G m N _ X;refine⟨e,g,o,k+1,t,λK' R d w=> ?_⟩;rw[L];exact f _ ⟨V,Q,w _ s⟩
    |exit i=>
     refine⟨.exit i,v,u,1,h1,λK' R d w=> ?_⟩;simp_all
    |ret=>
     refine⟨.ret,v,u,1,h1,λK' R d w=> ?_⟩;simp_all
  obtain⟨e,g,o,k,t,s⟩:=U n _ bB;refine⟨e,g,o,t,λK' d=>⟨hp,M,Gj F e g o,k,s,λn st B=> ?_⟩⟩;cases n with
  |zero=>exact B.elim
  |succ n=>
   have:=B K' (λr=>∃m,m<n+1/\Gj F e g o m r) d (λr h=>⟨n,aFd n,h⟩);grind
 |iy y ps a b _ _=>intro st p K h;exact h.elim
 |exit i=>intro st p K h;exact⟨_,_,_,h,λK' d=>d⟩
 |ret=>intro st p K h;exact⟨_,_,_,h,λK' d=>d⟩
def CE(bt:Prop->Prop->Prop)(P:Program)(gl:Nat->List D)(c:eL):Prop:=∀(f:ag) (K:aD->ag->Prop),run (fR P gl) gl c f K->∃e d,K e d/\∀a:aD->ag->Prop,a e d->run (hQ P gl bt) gl c f a
theorem alu{a b:eL}(m:CE bt P gl a)(au:CE bt P gl b)(ps:List Nat)(st0:ag):Gi (sh (fR P gl) (run (fR P gl) gl a) (run (fR P gl) gl b) ps st0) (sh (hQ P gl bt) (run (hQ P gl bt) gl a) (run (hQ P gl bt) gl b) ps st0):=by
 intro r s n h;obtain⟨d,h⟩:=h;obtain⟨e,o,h1,g⟩:=m _ _ h;cases e with
 |normal=>
  obtain⟨l,p,j,f⟩:=au _ _ h1;cases l with
  |normal=>exact⟨_,_,j,λk c=>⟨d,g _ (f _ c)⟩⟩
  |exit i=>exact⟨_,_,j,λk c=>⟨d,g _ (f _ c)⟩⟩
  |ret=>exact⟨_,_,j,λk c=>⟨d,g _ (f _ c)⟩⟩
 |exit i=>exact h1.elim
 |ret=>exact h1.elim
theorem Si{a b:eL}(o:CE bt P gl a)(au:CE bt P gl b){ps:List Nat}{g:Nat}{m:List ah}{st:ag}{K:aD->ag->Prop}(h:pQ (fR P gl) gl (run (fR P gl) gl a) (run (fR P gl) gl b) ps g m st K):
  ∃e f,K e f/\∀K':aD->ag->Prop,K' e f->pQ (hQ P gl bt) gl (run (hQ P gl bt) gl a) (run (hQ P gl bt) gl b) ps g m st K':=by
 obtain⟨l,h1,j,n⟩:=h;obtain⟨e,r,p,c,k⟩:=als (alu o au ps st.lP) n;cases e with
 |exit i=>exact c.elim
 |normal=>exact⟨_,_,c,λK' d=>⟨l,h1,j,k _ d⟩⟩
 |ret=>exact⟨_,_,c,λK' d=>⟨l,h1,j,k _ d⟩⟩
theorem Sj:∀{c:eL} {st:ag} {K:aD->ag->Prop},run (fR P gl) gl c st K->∃e o,K e o/\∀K':aD->ag->Prop,K' e o->run (hQ P gl bt) gl c st K':=by
 intro c;induction c with
 |skip=>intro st K h;exact⟨_,_,h,λK' d=>d⟩
 |ops l=>intro st K h;obtain⟨o,h1,f⟩:=CW h;exact⟨_,_,h1,λK' d=>f _ d⟩
 |any l N=>intro st K h;obtain⟨o,h1,f⟩:=Sf h;exact⟨_,_,h1,λK' d=>f _ d⟩
 |bad=>intro st K h;exact h.elim
 |seq a b t s=>
  intro st K h;obtain⟨e,g,h1,f⟩:=t h;cases e with
  |normal=>
   obtain⟨A,u,r,p⟩:=s h1;exact⟨A,u,r,λK' d=>f _ (p _ d)⟩
  |exit i=>exact⟨_,_,h1,λK' d=>f _ d⟩
  |ret=>exact⟨_,_,h1,λK' d=>f _ d⟩
 |cond c a b t s=>
  intro st K h;simp[run]at h⊢;split at h
  .grind
  .exact h.elim
 |block i b ih=>
  intro st K h;obtain⟨e,g,h1,f⟩:=ih h;cases e with
  |normal=>exact⟨_,_,h1,λK' d=>f _ d⟩
  |ret=>exact⟨_,_,h1,λK' d=>f _ d⟩
  |exit j=>
   simp only at h1;cases au:Nat.beq j i with
   |true=>rw[au]at h1;exact⟨_,_,h1,λK' d=>f _ az8⟩
   |false=>rw[au]at h1;exact⟨_,_,h1,λK' d=>f _ az8⟩
 |loop ts bs b ih=>
  intro st K h;obtain⟨E,I,n,bB,M⟩:=h;obtain⟨F,C⟩:∃F:(ag->Prop)->(aD->ag->Prop)->ag->Prop,F=λR K g=>run (hQ P gl bt) gl b g λx st=>match x with
   |.normal=>forget (hQ P gl bt) g.s.length ts bs st R
   |x=>K x st:=⟨_,rfl⟩
  have J:∀n st,I n st->∃e g k,K e g/\Gh F e g k st:=by
   intro n;induction n using Nat.strongRecOn with
   |_ n z=>
    intro st B;obtain⟨x,u,h1,f⟩:=ih (M n st B);cases x with
    |normal=>
     obtain⟨H,m,G,L⟩:=h1;obtain⟨e,g,k,r,p⟩:=z m G _ L;refine⟨e,g,k+1,r,λK' R d v=> ?_⟩;rw[C];exact f _ ⟨H,v _ p⟩
    |exit i=>
     refine⟨.exit i,u,1,h1,λK' R d v=> ?_⟩;simp_all
    |ret=>
     refine⟨.ret,u,1,h1,λK' R d v=> ?_⟩;simp_all
  obtain⟨e,g,k,r,p⟩:=J n _ bB;refine⟨e,g,r,λK' d=>⟨E,Gh F e g,k,p,λn st w=> ?_⟩⟩;cases n with
  |zero=>exact w.elim
  |succ n=>
   have:=w K' (λo=>∃m,m<n+1/\Gh F e g m o) d (λo h=>⟨n,aFd n,h⟩);grind
 |iy y ps a b t s=>
  intro st K h;simp[run]at h⊢;split at h
  .rename_i e;exact Si (λ_ _=>t) (λ_ _=>s) h
  .rename_i e;exact Si (λ_ _=>t) (λ_ _=>s) h
  .exact h.elim
 |exit i=>intro st K h;exact⟨_,_,h,λK' d=>d⟩
 |ret=>intro st K h;exact⟨_,_,h,λK' d=>d⟩
theorem alv{f:aW}{args:List ah}{s:aY}{K:ah->aY->Prop}(h:mf (fR P gl) gl f args s K):∃r s',K r s'/\∀K':ah->aY->Prop,K' r s'->mf (hQ P gl bt) gl f args s K':=by
 obtain⟨e,g,h1,d⟩:=Sj h;cases e with
 |exit i=>exact h1.elim
 |normal=>
  simp at h1;split at h1
  .rename_i r a;exact⟨_,_,h1.2,λK' c=>d _ (by simp[a];exact⟨h1.1,c⟩)⟩
  .exact h1.elim
 |ret=>
  simp at h1;split at h1
  .rename_i r a;exact⟨_,_,h1.2,λK' c=>d _ (by simp[a];exact⟨h1.1,c⟩)⟩
  .exact h1.elim
theorem a6.ext{f:Nat}{a:aW}{args:List ah}{s:aY}{Q:ah->aY->Prop}(h:a6 P f a)(c:mf (fR P gl) gl a args s Q):∃r s',Q r s'/\bD P gl f args s r s':=by
 obtain⟨r,s',h1,d⟩:=alv (bt:=And) c;exact⟨r,s',h1,h.hB (d _ ⟨rfl,rfl⟩)⟩
end
def aFe:=@List.drop_drop
def aEV:=@List.mem_map_of_mem
theorem aAs(h:p:=by simp[Value.oneCell']):p:=h
inductive iI where
 |bool
 |int (k:IntKind)
 |str
 |list (aw:Bool) (ts:List iI)
 deriving Inhabited,Repr
mutual
inductive AF(N:Nat):iI->D->Prop
 |bool (b:Bool):AF N .bool (.bool b)
 |int (k:IntKind) (n:Int):k.min<=n->n<=k.max->AF N (.int k) (.int k n)
 |str (s:List UInt8):s.length<=N->AF N .str (.str s)
 |list (aw:Bool) (ts:List iI) (l:List D):l.length<=N->qh N aw ts l->AF N (.list aw ts) (.list ts.length l)
inductive qh(N:Nat):Bool->List iI->List D->Prop
 |nil (aw:Bool) (ts:List iI):qh N aw ts []
 |agg (ts:List iI) (cs:List D) (l:List D):lX N ts cs->qh N true ts l->qh N true ts (.agg cs::l)
 |one (t:iI) (x:D) (l:List D):AF N t x->qh N false [t] l->qh N false [t] (x::l)
inductive lX(N:Nat):List iI->List D->Prop
 |nil:lX N [] []
 |cons (t:iI) (x:D) (ts:List iI) (xs:List D):AF N t x->lX N ts xs->lX N (t::ts) (x::xs)
end
section
variable (P:Program)
def CY(f:Nat->Option (Bool×List iI)):List Field->Nat->Option (List iI)
 |[],_=>some []
 |x::xs,off=>match f x.type with
  |some (_,a)=>match CY f xs (off+a.length)with
   |some b=>if x.offset=off/\P.cellsOf x.type=a.length then some (a++b)else none
   |none=>none
  |none=>none
def oC:Nat->Nat->Option (Bool×List iI)
 |0,_=>none
 |n+1,t=>match P.underlying t with
  |some .bool=>some (false,[.bool])
  |some (.int k)=>some (false,[.int k])
  |some .string=>some (false,[.str])
  |some (.slice e)=>match oC n e with
   |some (aw,ts)=>if P.cellsOf e=ts.length/\0<ts.length then some (false,[.list aw ts])else none
   |none=>none
  |some (.struct fs)=>match CY P (oC n) fs.toList 0 with
   |some ts=>if P.cellsOf t=ts.length then some (true,ts)else none
   |none=>none
  |_=>none
end
structure CZ{H:Type}(B:DataW H->Nat):Prop where
 str:∀s,s.length<=B (.lit (.string s))
 slice:∀es sp,es.length<=B (.slice es sp)/\∀x,x∈es->B x<=B (.slice es sp)
 agg:∀ps x,x∈ps->B x<=B (.agg ps)
def G0:bL:=λ_=>none
section
variable {P:Program}{W:World}{N off:Nat}
theorem lX.append{ts us:List iI}{xs ys:List D}(h:lX N ts xs)(c:lX N us ys):lX N (ts++us) (xs++ys):=by
 induction ts generalizing xs with
 |nil=>cases h;grind
 |cons t ts ih=>cases h with|cons _ _ _ _ a b=>exact .cons _ _ _ _ a (ih b)
theorem lX.length{ts:List iI}{xs:List D}(h:lX N ts xs):xs.length=ts.length:=by
 induction ts generalizing xs with
 |nil=>cases h;rfl
 |cons t ts ih=>cases h with|cons _ _ _ _ a b=>simp_all
theorem alw{b off j:Nat}:W.cell? ((⟨b,off,none⟩:Addr).add j)=W.cell? ⟨b,off+j,none⟩:=by
 grind[Addr.add]
theorem alx{b off n:Nat}{vs:List Value}(h:W.cells? 0 ⟨b,off,none⟩ n=some vs)(h1:∀v,v∈vs->v.oneCell'=true):vs.length=n/\jc W G0 b off vs:=by
 obtain⟨_,a,d⟩:=World.cells?_some h;refine⟨a,λj v c=>⟨?_,λL n h=>by grind[G0],h1 v (List.mem_of_getElem? c)⟩⟩;grind[alw]
theorem jc.app{b off:Nat}{vs us:List Value}(h:jc W G0 b off vs)(d:jc W G0 b (off+vs.length) us):jc W G0 b off (vs++us):=by
 intro j v a;rcases aDo j vs.length with c|c
 .rw[aDj c]at a;exact h j v a
 .rw[aDp c]at a;have:=d _ v a;grind
def AG(aw:Bool)(xs:List D):D:=if aw then .agg xs else xs.getD 0 .dJ
theorem qh.aly{aw:Bool}{ts:List iI}{xs:List D}{l:List D}(d:aw=false->∃t,ts=[t])(h:lX N ts xs)(a:qh N aw ts l):qh N aw ts (AG aw xs::l)/\(AG aw xs).cells=xs:=by
 cases aw with
 |true=>exact⟨.agg _ _ _ h a,rfl⟩
 |false=>
  obtain⟨t,rfl⟩:=d rfl;cases h with
  |cons _ x _ xs h1 c=>
   cases c;refine⟨.one _ _ _ h1 a,?_⟩;cases h1<;>rfl
theorem alz{n t:Nat}{ts:List iI}(h:oC P n t=some (false,ts)):∃c,ts=[c]:=by
 cases n with
 |zero=>grind[oC]
 |succ n=>
  simp[oC]at h;grind
theorem Sk{H:Type}{f:Field->List Value->Option (DataW H×List MemPlace)}{B:DataW H->Nat}{cs:List Value}{g:Nat->Option (Bool×List iI)}:
  ∀{c:List Field} {off:Nat} {ts:List iI} {ys:List (DataW H×List MemPlace)},CY P g c off=some ts->(c.mapM λx=>f x ((cs.drop x.offset).take (P.cellsOf x.type)))=some ys->(∀y,y∈ys->B y.1<=N)->
  (∀x,x∈c->∀cs d ps aw ts,g x.type=some (aw,ts)->f x cs=some (d,ps)->B d<=N->∃xs,cw W G0 cs xs/\lX N ts xs/\∀v,v∈cs->v.oneCell'=true)->
  ∃xs,cw W G0 ((cs.drop off).take ts.length) xs/\lX N ts xs/\∀v,v∈(cs.drop off).take ts.length->v.oneCell'=true
 |[],off,ts,ys,h1,k,l,j=>by
  simp[CY,aCz]at h1;subst h1;exact⟨[],by simpa using .nil,.nil,az7⟩
 |x::c,off,ts,ys,h1,k,l,j=>by
  simp[CY]at h1;split at h1
  .rename_i aw a bn;split at h1
   .rename_i b au;split at h1
    .rename_i n;simp at h1;subst h1;simp only[aE8,aDt,aCL,aFs,aCz]at k;obtain⟨y,m,z,o,rfl⟩:=k;obtain⟨d,ps⟩:=y;obtain⟨xs,s,p,r⟩:=j x az7 _ d ps _ _ bn m (l (d,ps) az7);obtain⟨u,f1,t,C⟩:=Sk (off:=off+a.length) au o (λy m=>l y az9) (λx w=>j x az9);rw[n.1,n.2]at s r;have A:(cs.drop off).take (a++b).length=(cs.drop off).take a.length++(cs.drop (off+a.length)).take b.length:=by
      rw[aCF,List.take_add,aFe]
     refine⟨xs++u,?_,p.append t,?_⟩
     .grind[cw.append]
     grind
    simp_all
   simp_all
  simp_all
theorem Sl{Y:Type}{b sz:Nat}{aw:Bool}{ts:List iI}(g:sz=ts.length)(c:aw=false->∃t,ts=[t]):
  ∀{ys:List Y} {k:Nat},(∀i y,ys[i]?=some y->∃vs xs,vs.length=sz/\jc W G0 b (off+(k+i)*sz) vs/\cw W G0 vs xs/\lX N ts xs)->
  ∃(l:List D) (vs:List Value),l.length=ys.length/\(∀d,d∈l->d.cells.length=sz)/\jc W G0 b (off+k*sz) vs/\cw W G0 vs (l.flatMap D.cells)/\qh N aw ts l
 |[],k,_=>⟨[],[],rfl,az7,λj v A=>az8,.nil,.nil _ _⟩
 |y::ys,k,h=>by
  obtain⟨vs,xs,s,o,r,f⟩:=h 0 y rfl;obtain⟨l,n,f1,u,w,z,m⟩:=Sl g c (ys:=ys) (k:=k+1) λi y p=>by
   obtain⟨vs,xs,g1,g2,g3⟩:=h (i+1) y az8;exact⟨vs,xs,g1,by rw[show k+1+i=k+(i+1)by omega];omega,g3⟩
  obtain⟨g1,g2⟩:=qh.aly c f m;refine⟨AG aw xs::l,vs++n,az9,?_,?_,?_,g1⟩
  .intro d a;rcases aCJ.1 a with rfl|a
   all_goals grind[lX.length]
  all_goals grind[jc.app,cw.append]
theorem alA{H:Type}{enc:TypeId×Value->H}{E:Nat->Bool}{B:DataW H->Nat}(p:CZ B):∀(n l t:Nat) (cs:List Value) (d:DataW H) (ps:List MemPlace) (aw:Bool) (ts:List iI),
  oC P n t=some (aw,ts)->DataW.trod enc P W 0 E true l t cs=some (d,ps)->B d<=N->∃xs,cw W G0 cs xs/\lX N ts xs/\∀v,v∈cs->v.oneCell'=true:=by
 intro n;induction n with
 |zero=>grind[oC]
 |succ n ih=>
  intro l t cs d ps aw ts h1 c o;cases l with
  |zero=>simp_all[DataW.trod]
  |succ l=>
   simp[oC]at h1;split at h1
   .rename_i hu;obtain⟨rfl,rfl⟩:=h1;obtain⟨b,rfl,_⟩:=DataW.trod_bool hu c;exact⟨_,.cons _ _ _ _ (.bool _) .nil,.cons _ _ _ _ (.bool _) .nil,aAs⟩
   .rename_i k hu;obtain⟨rfl,rfl⟩:=h1;obtain⟨ai,rfl,_,r⟩:=DataW.trod_int hu c;simp[Lit.wf,aCx,aCA]at r;exact⟨_,.cons _ _ _ _ (.int _ _) .nil,.cons _ _ _ _ (.int _ _ r.1 r.2) .nil,aAs⟩
   .rename_i hu;obtain⟨rfl,rfl⟩:=h1;obtain⟨ai,rfl,m,_⟩:=DataW.trod_string hu c;simp at m;obtain⟨rfl,rfl⟩:=m;exact⟨_,.cons _ _ _ _ (.str _ _ rfl) .nil,.cons _ _ _ _ (.str _ (aDn (p.str _) o)) .nil,aAs⟩
   .rename_i e hu;split at h1
    .rename_i M g m;split at h1
     .rename_i z;simp[aCz,aC6]at h1;obtain⟨rfl,rfl⟩:=h1;have V:M=false->∃t,g=[t]:=λh=>by grind[alz]
      rcases DataW.trod_slice hu c with⟨rfl,_⟩|⟨a,len,cap,elems,rest,n',U,rfl,A,_,q9,_,hlen,u,_,_⟩
      .exact⟨_,.cons _ _ _ _ (.kZ _ _ _) .nil,.cons _ _ _ _ (.list _ _ _ (aCu _) (.nil _ _)) .nil,aAs⟩
      .simp[aC6]at A;obtain⟨rfl,_⟩:=A;cases U;have hs:=p.slice (elems.map (·.1)) (rest.map (·.1));rcases aFp len with bB|bB
       .subst bB;exact⟨_,.cons _ _ _ _ (.kZ _ _ g.length) .nil,.cons _ _ _ _ (.list _ _ _ (aCu _) (.nil _ _)) .nil,aAs⟩
       .obtain⟨b,off,ao⟩:=a;have Q:ao=none:=by
         have:=u 0 bB;rw[aCB az6,aCL]at this;obtain⟨F,jD,_⟩:=this;obtain⟨_,J,yb⟩:=World.cells?_some jD;have h1:=yb 0 az6;rw[aCB az6]at h1;simp[aDV,Addr.add,if_true]at h1;unfold World.cell? at h1;split at h1
         .simp_all
         simp_all
        subst Q;obtain⟨ad,F,f1,X,C,Y,Z⟩:=Sl (W:=W) (N:=N) (off:=off) (b:=b) (ys:=elems) (k:=0) (sz:=g.length) rfl V λi y j=>by
         have hi:i<len:=az9;have:=u i hi;rw[j,aCL]at this;obtain⟨us,s,K⟩:=this;obtain⟨d,ps⟩:=y;obtain⟨xs,L,G,w⟩:=ih _ _ _ _ _ _ _ m K (aDn (hs.2 d (aCY.2 ⟨(d,ps),aC8 j,rfl⟩)) o);rw[z.1]at s;have R:(⟨b,off,none⟩:Addr).add (i*g.length)=⟨b,off+i*g.length,none⟩:=by
          grind[Addr.add]
         rw[R]at s;obtain⟨c1,c2⟩:=alx s w;grind
        rw[aDV,aDc]at C;rw[hlen]at f1;exact⟨_,.cons _ _ _ _ (.list b off len cap g.length ad F f1.symm q9 X C Y) .nil,
         .cons _ _ _ _ (.list _ _ _ az9 Z) .nil,aAs⟩
     simp_all
    simp_all
   .rename_i fs hu;split at h1
    .rename_i g m;split at h1
     .rename_i z;simp only[aCz,aC6]at h1;obtain⟨rfl,rfl⟩:=h1;unfold DataW.trod at c;simp only[hu]at c;split at c
      .rename_i J;simp only[aDr,aC6]at c;obtain⟨ys,j,rfl,rfl⟩:=c;obtain⟨xs,L,G,w⟩:=Sk (B:=B) (f:=λf cs=>DataW.trod enc P W 0 E true l f.type cs) (off:=0) m j (λy j=>aDn (p.agg _ _ (aEV j)) o)
        (λx _ cs d ps aw ts h1 c S=>ih l _ cs d ps aw ts h1 c S)
       grind
      simp_all
     simp_all
    simp_all
   simp_all
end
theorem aAb(h:p:=by cases h):p:=h
section
variable {P:Program}{W:World}{N:Nat}
theorem alE{H:Type}{enc:TypeId×Value->H}{u:Nat->Bool}{B:DataW H->Nat}(p:CZ B){n base t:Nat}{v:Value}{d:DataW H}{ps:List MemPlace}{aw:Bool}{ts:List iI}
  (a:oC P n t=some (aw,ts)) (c:Value.okWide P W .any base t v) (m:DataW.Trod enc P W 0 u true t v d ps) (k:B d<=N):∃xs,Rd W G0 v (AG aw xs)/\lX N ts xs:=by
 obtain⟨r,l⟩:=m;obtain⟨xs,h1,j,g⟩:=alA p n r t _ _ _ _ _ a l k;refine⟨xs,?_,j⟩;cases n with
 |zero=>grind[oC]
 |succ n=>
  have f:aw=false->v.cells.toList=[v]->Rd W G0 v (AG aw xs):=by
   intro o s;subst o;rw[s]at h1;cases h1 with
   |cons _ x _ xs h1 g=>cases g;exact h1
  simp[oC]at a;unfold Value.okWide at c;split at a
  .rename_i hu;simp only[aCz,aC6]at a;refine f a.1.symm ?_;simp[Cell.okWide,hu]at c;cases v<;>simp[Cell.ok,hu]at c<;>rfl
  .rename_i hu;simp only[aCz,aC6]at a;refine f a.1.symm ?_;simp[Cell.okWide,hu]at c;cases v<;>simp[Cell.ok,hu]at c<;>rfl
  .rename_i hu;simp only[aCz,aC6]at a;refine f a.1.symm ?_;simp[Cell.okWide,hu]at c;cases v<;>simp[Cell.ok,hu]at c<;>rfl
  .rename_i e hu;split at a
   .split at a
    .simp only[aCz,aC6]at a;refine f a.1.symm ?_;simp[Cell.okWide,hu]at c;cases v<;>simp[Cell.ok,hu]at c<;>rfl
    simp_all
   simp_all
  .rename_i fs hu;split at a
   .split at a
    .simp only[aCz,aC6]at a;rw[hu]at c;simp at c;obtain⟨w,rfl,_⟩:=c;rw[<-a.1];exact .agg _ _ h1
    simp_all
   simp_all
  simp_all
theorem K5{W dH:World}{G':bL}(h:Good W G0 dH G'):∀i,i<W.heap.size->dH.heap[i]?=W.heap[i]?:=λi a=>(h.iN i a (.inl rfl)).1
theorem alF{W dH:World}{G':bL}{may:MemPlace->Prop}(h:Good W G0 dH G'):W.keptBut dH may:=by
 refine⟨h.os,h.out,λi a=> ?_⟩;grind[K5]
def K6(W:World)(gl:Nat->List D):Prop:=∀g,∃a,jc W G0 g 0 a/\cw W G0 a (gl g)/\((gl g).length=0\/∃c E d,zC W G0 g (.cells c E d)/\c.size=(gl g).length)
theorem alG{gl:Nat->List D}(h:K6 W gl):pU gl W G0:=by
 refine⟨λg=> ?_,λg=> ?_⟩
 .obtain⟨a,h1,c,_⟩:=h g;have:=Rd.e2 g 0 0 a _ h1 c;omega
 .obtain⟨a,_,_,d⟩:=h g;omega
inductive uQ(N:Nat):List (Bool×List iI)->List ah->Prop
 |nil:uQ N [] []
 |cons (aw:Bool) (ts:List iI) (xs:List D) (lY:List (Bool×List iI)) (ff:List ah):lX N ts xs->uQ N lY ff->uQ N ((aw,ts)::lY) (.d (AG aw xs)::ff)
theorem Sm{H:Type}{enc:TypeId×Value->H}{w:Nat->Bool}{B:DataW H->Nat}(m:CZ B){n base:Nat}:∀{ts:List Nat} {vs:List Value} {a:List (DataW H)} {ps:List MemPlace} {lY:List (Bool×List iI)},
  ts.mapM (oC P n)=some lY->(∀(j:Nat) t v,ts[j]?=some t->vs[j]?=some v->Value.okWide P W .any base t v)->DataW.TrodAll enc P W 0 w true ts vs a ps->(∀d,d∈a->B d<=N)->
  ∃k,uQ N lY k/\cu W G0 [] vs k/\a.length=ts.length
 |[],vs,a,ps,lY,h1,g,c,f=>by
  simp at h1;subst h1;cases vs with
  |nil=>cases a with
   |nil=>exact⟨[],.nil,.nil,rfl⟩
   |cons _ _=>exact c.elim
  |cons _ _=>exact c.elim
 |t::ts,vs,a,ps,lY,h1,g,c,f=>by
  simp only[aE8,aDt,aCL,aFs,aCz]at h1;obtain⟨⟨aw,z⟩,s,A,l,rfl⟩:=h1;cases vs with
  |nil=>exact c.elim
  |cons v vs=>cases a with
   |nil=>exact c.elim
   |cons d a=>
    obtain⟨p,q,r,o,_⟩:=c;obtain⟨F,f1,u⟩:=alE m s (g 0 t v rfl rfl) r (f d az7);obtain⟨k,g1,g2,g3⟩:=Sm m l (λj t v l E=>g (j+1) t v az8 az8) o (λd C=>f d az9);exact⟨_,.cons _ _ _ _ _ u g1,.cons _ _ _ _ (.d _ _ f1) g2,az9⟩
theorem alH{W dH:World}{G':bL}(h:Good W G0 dH G'){p:MemPlace}(hp:p.block<W.heap.size):W.sameAt dH p:=by
 cases p with
 |cell b o=>exact aE9 (w:=W) (K5 h b hp)
 |map b=>exact K5 h b hp
theorem Sn{H:Type}{enc:TypeId×Value->H}{W dH:World}{G':bL}(j:laidOutB P=true)(h:Good W G0 dH G'):∀{ts:List Nat} {vs:List Value} {c:List (DataW H)} {ps:List MemPlace},
  (∀t,t∈ts->P.readableRec t=true/\t<P.types.size)->DataW.TrodAll enc P W 0 (λ_=>true) true ts vs c ps->(∀x,x∈ps->x.block<W.heap.size)->DataW.TrodAll enc P dH 0 (λb=>decide (b<W.heap.size)) true ts vs c ps
 |[],vs,c,ps,_,a,_=>by
  cases vs with
  |nil=>cases c with
   |nil=>exact a
   |cons _ _=>exact a.elim
  |cons _ _=>exact a.elim
 |t::ts,vs,c,ps,h1,a,g=>by
  cases vs with
  |nil=>exact a.elim
  |cons v vs=>cases c with
   |nil=>exact a.elim
   |cons d c=>
    obtain⟨p,q,m,k,rfl⟩:=a;obtain⟨n,o⟩:=h1 t az7;exact⟨p,q,WideElems.Trod_stays j n o m (λx f=>alH h (g x (by simp[f]))) (λx f=>by simpa using g x (by simp[f])),
     Sn j h (λt l=>h1 t (by simp[l])) k (λx f=>g x (by simp[f])),rfl⟩
theorem alI{H:Type}{enc:TypeId×Value->H}{l:ChangeSpec}{a:Func}{f tb n base:Nat}{gl:Nat->List D}{B:DataW H->Nat}(S:CZ B){lY:List (Bool×List iI)}{args:Array Value}{c u:List (DataW H)}{Q:List MemPlace}
  (o:l.vars=[]) (Z:c.length=a.params.size->l.fn H (c++u)={results:=[.lit (.bool true)],args:=c})
  (C:a.resultTypes= #[tb]) (au:P.underlying tb=some .bool) (G:laidOutB P=true) (aA:(a.params.toList.all λt=>P.readableRec t&&decide (t<P.types.size))=true)
  (E:a.params.toList.mapM (oC P n)=some lY) (F:K6 W gl)
  (V:∀(j:Nat) t v,a.params[j]?=some t->args[j]?=some v->Value.okWide P W .any base t v)
  (A:DataW.Whole enc P a.params.toList l.vars false W args.toList c u Q) (M:∀d,d∈c->B d<=N)
  (Y:∀g,uQ N lY g->bD P gl f g [] (.d (.bool true)) []):
  Calls P f args W λe dH=>∃v,e=.returned v/\l.post enc P a false true false false W args v dH:=by
 have r:=A;obtain⟨p,q,k,z,rfl,o4,ur⟩:=A;obtain⟨g,R,dn,ao⟩:=Sm S E (λj t v J w=>V j t v az8 az8) k M;obtain⟨_,X⟩:=Y g R;have xA:args=⟨args.toList⟩:=az7;have L:=X W G0 [] args.toList ⟨rfl,λi b ar h=>az7⟩ (alG F) (λb ad n h=>by grind[G0]) dn;refine L.mono ?_;rintro e dH ⟨v,G',ay,rfl,w,_,_,s,_⟩;have K:v=.bool true:=by
  have k:=w;cases k with
  |d _ _ h=>cases h;rfl
 subst K;rw[o]at z;obtain⟨rfl,rfl⟩:=ChangeShapes.trodVars_none z;have m:=Z az6;refine⟨_,rfl,c,[],p++[],[],p,[],r,?_,?_,?_,alF s,λh=>aAb⟩
 .rw[m];have U:a.resultTypes.size=1:=az9;rw[U,C];exact ChangeShapes.trodAll_mk1 (RowKit.shut_bool au true)
 .rw[m];refine Sn G s (λt J=> ?_) k (λx ai=>r.lt x az9);grind
 .rw[m,o];rfl
end
noncomputable def ag.cU(st:ag)(k:Nat)(v:ah):ag:=⟨λj=>@Bool.rec (λ_=>ah) (st.aR j) v (Nat.beq j k),st.bM,st.s⟩
theorem ag.alK(st:ag)(k:Nat)(v:ah):st.cU k v=st.set k v:=by
 unfold ag.cU ag.set;congr 1;funext j;simp only[cK];cases Nat.beq j k<;>rfl
section
variable {R:Type}(A:mT R)(gl:Nat->List D)
noncomputable def Sr(d:Nat)(x:O)(st:ag)(K:ag->R):R:=
 K (st.cU d (snap (aO gl st x)))
noncomputable def Ss(d:Nat)(s:Nat)(st:ag)(K:ag->R):R:=
 K ((st.cU s .undef).cU d (st.aR s))
noncomputable def St(d:Nat)(x:O)(st:ag)(K:ag->R):R:=
 K ((kill st x).cU d (aO gl st x))
noncomputable def Sv(d:Nat)(c:O)(a:O)(b:O)(st:ag)(K:ag->R):R:=
 match aO gl st c with
  |.d (.bool t)=>cond t (K (st.cU d (snap (aO gl st a)))) (K (st.cU d (snap (aO gl st b))))
  |_=>A.fail
noncomputable def Sw(d:Nat)(z:List ah)(st:ag)(K:ag->R):R:=
 match st.bM d with
  |none=>K ((st.eg d z).cU d (.dw d 0))
  |some _=>A.fail
noncomputable def Sx(d:Nat)(x:O)(n:Nat)(st:ag)(K:ag->R):R:=
 match st.bM d with
  |none=>
   let cs:=cellsOf (gT (aO gl st x));A.guard (Nat.beq cs.length n&&cs.all (eo depth)) (K ((st.eg d cs).cU d (.dw d 0)))
  |some _=>A.fail
noncomputable def Sy(d:Nat)(z:List ah)(st:ag)(K:ag->R):R:=
 K ({st with s:=st.s++[cc.box z]}.cU d (.ptr st.s.length 0))
noncomputable def Sz(d:Nat)(x:O)(n:Nat)(st:ag)(K:ag->R):R:=
  let cs:=cellsOf (gT (aO gl st x));A.guard (Nat.beq cs.length n&&cs.all (eo depth)) (K ({st with s:=st.s++[cc.box cs]}.cU d (.ptr st.s.length 0)))
noncomputable def SA(d:Nat)(z:List ah)(ps:List (Nat×Nat×O))(st:ag)(K:ag->R):R:=
 match pM gl st z ps with
  |some cs=>K (st.cU d (.agg cs))
  |none=>A.fail
noncomputable def SB(d:Nat)(sz:Nat)(xs:List O)(st:ag)(K:ag->R):R:=
 match elems gl st sz xs with
  |some l=>K (st.cU d (.own sz l))
  |none=>A.fail
noncomputable def SC(d:Nat)(a:O)(t:Nat)(off:Nat)(n:Nat)(aw:Bool)(st:ag)(K:ag->R):R:=
 match aO gl st a,st.bM t with
  |.dw f c,some cs=>
   A.guard (Nat.beq f t&&Nat.beq c off&&Nat.ble (off+n) cs.length) (K (st.cU d (valOf cs off n aw)))
  |_,_=>A.fail
noncomputable def SD(d:Nat)(a:O)(t:Nat)(off:Nat)(st:ag)(K:ag->R):R:=
 match aO gl st a,st.bM t with
  |.dw f c,some cs=>
   A.guard (Nat.beq f t&&Nat.beq c off&&Nat.blt off cs.length) (K ((st.eg t (cs.set off .undef)).cU d (cs.getD off .undef)))
  |_,_=>A.fail
noncomputable def SE(a:O)(t:Nat)(off:Nat)(x:O)(n:Nat)(st:ag)(K:ag->R):R:=
 match aO gl st a,st.bM t with
  |.dw d c,some cs=>
   let vs:=cellsOf (aO gl st x);A.guard (Nat.beq d t&&Nat.beq c off&&Nat.beq vs.length n&&Nat.ble (off+n) cs.length&&vs.all kT) (K ((kill st x).eg t (putCells cs off vs)))
  |_,_=>A.fail
noncomputable def SF(d:Nat)(a:O)(n:Nat)(aw:Bool)(st:ag)(K:ag->R):R:=
 match aO gl st a with
  |.ptr i off=>match st.s.getD i .dead with
   |.box cs=>A.guard (Nat.ble (off+n) cs.length&&(aw||Nat.beq n 1)) (K (st.cU d (valOf cs off n aw)))
   |_=>A.fail
  |.d (.e2 cs off)=>A.guard (Nat.ble (off+n) cs.length) (K (st.cU d (.d (cond aw (.agg ((cs.drop off).take n)) (cs.getD off .dJ)))))
  |_=>A.fail
noncomputable def SG(d:Nat)(a:O)(st:ag)(K:ag->R):R:=
 match aO gl st a with
  |.ptr i off=>match st.s.getD i .dead with
   |.box cs=>A.guard (Nat.blt off cs.length) (K ({st with s:=st.s.set i (.box (cs.set off .undef))}.cU d (cs.getD off .undef)))
   |_=>A.fail
  |_=>A.fail
noncomputable def SH(a:O)(x:O)(n:Nat)(st:ag)(K:ag->R):R:=
 match aO gl st a with
  |.ptr i off=>match st.s.getD i .dead with
   |.box cs=>
    let vs:=cellsOf (aO gl st x);A.guard (Nat.beq vs.length n&&Nat.ble (off+n) cs.length&&vs.all kT) (K {kill st x with s:=st.s.set i (.box (putCells cs off vs))})
   |_=>A.fail
  |_=>A.fail
noncomputable def SI(d:Nat)(x:O)(st:ag)(K:ag->R):R:=
 match aO gl st x with
  |.ptr i o=>K (st.cU d (.ptr i o))
  |.dw t o=>K (st.cU d (.dw t o))
  |.d (.e2 cs o)=>K (st.cU d (.d (.e2 cs o)))
  |.d (.fn f)=>K (st.cU d (.d (.fn f)))
  |.func f a c=>K (st.cU d (.func f a c))
  |_=>A.fail
noncomputable def SJ(d:Nat)(op:BinOp)(x:O)(y:O)(st:ag)(K:ag->R):R:=
 match aO gl st x,aO gl st y with
  |.d (.int k a),.d (.int k' b)=>match xj op k a b with
   |some r=>A.guard (decide (0<=b)) (K (st.cU d (.d r)))
   |none=>match BJ op k a b with
    |some (ok,r)=>A.guard (decide (k=k')) (A.guard ok (K (st.cU d (.d r))))
    |none=>A.fail
  |.d (.str a),.d (.str b)=>match BK op a b with
   |some (ok,r)=>A.guard ok (K (st.cU d (.d r)))
   |none=>A.fail
  |_,_=>A.fail
noncomputable def SK(d:Nat)(neg:Bool)(aw:Bool)(ks:List Nat)(x:O)(y:O)(st:ag)(K:ag->R):R:=
 match hI (aO gl st x),hI (aO gl st y)with
  |some a,some b=>A.guard (fc aw a&&fc aw b) <| match cG ks a.cells b.cells with
   |some r=>K (st.cU d (.d (.bool (cond neg (!r) r))))
   |none=>A.fail
  |_,_=>A.fail
noncomputable def SL(d:Nat)(op:UnOp)(x:O)(st:ag)(K:ag->R):R:=
 match op,aO gl st x with
  |.not,.d (.bool b)=>K (st.cU d (.d (.bool (!b))))
  |.neg,.d (.int k n)=>K (st.cU d (.d (.int k (k.wrap (0-n)))))
  |.xor,.d (.int k n)=>K (st.cU d (.d (.int k (k.wrap (BitVec.ofInt k.bits (if k.signed then -1 else k.max)^^^BitVec.ofInt k.bits n).toNat))))
  |_,_=>A.fail
noncomputable def SM(d:Nat)(k:IntKind)(x:O)(st:ag)(K:ag->R):R:=
 match aO gl st x with
  |.d (.int _ n)=>K (st.cU d (.d (.int k (k.wrap n))))
  |_=>A.fail
noncomputable def SN(d:Nat)(x:O)(st:ag)(K:ag->R):R:=
 match aO gl st x with
  |.d (.str s)=>K (st.cU d (.d (.list 1 (s.map fO))))
  |_=>A.fail
noncomputable def SP(d:Nat)(x:O)(st:ag)(K:ag->R):R:=
 match hJ (aO gl st x)with
  |some (_,l)=>match nJ l with
   |some s=>K (st.cU d (.d (.str s)))
   |none=>A.fail
  |none=>A.fail
noncomputable def SQ(d:Nat)(x:O)(off:Nat)(st:ag)(K:ag->R):R:=
 match aO gl st x with
  |.ptr i o=>K (st.cU d (.ptr i (o+off)))
  |.dw t o=>K (st.cU d (.dw t (o+off)))
  |.d (.e2 cs o)=>K (st.cU d (.d (.e2 cs (o+off))))
  |_=>A.fail
noncomputable def SR(d:Nat)(x:O)(off:Nat)(n:Nat)(aw:Bool)(st:ag)(K:ag->R):R:=
  let cs:=cellsOf (aO gl st x);A.guard (xh (aO gl st x)&&Nat.ble (off+n) cs.length) (K (st.cU d (valOf cs off n aw)))
noncomputable def SS(d:Nat)(x:O)(i:O)(sz:Nat)(st:ag)(K:ag->R):R:=
 match aO gl st i with
  |.d (.int _ n)=>match aO gl st x with
   |.aP j off len _ a=>A.guard (Nat.beq a sz&&decide (0<=n)&&decide (n<len)) (K (st.cU d (.ptr j (off+n.toNat*sz))))
   |v=>match hJ v with
    |some (a,l)=>A.guard (Nat.beq a sz&&decide (0<=n)&&decide (n<l.length)) (K (st.cU d (.d (.e2 (l.getD n.toNat .dJ).cells 0))))
    |none=>A.fail
  |_=>A.fail
noncomputable def SU(d:Nat)(x:O)(i:O)(len:Nat)(sz:Nat)(st:ag)(K:ag->R):R:=
 match aO gl st i with
  |.d (.int _ n)=>A.guard (decide (0<=n)&&decide (n<len)) <| match aO gl st x with
   |.ptr j o=>K (st.cU d (.ptr j (o+n.toNat*sz)))
   |.dw t o=>K (st.cU d (.dw t (o+n.toNat*sz)))
   |.d (.e2 cs o)=>K (st.cU d (.d (.e2 cs (o+n.toNat*sz))))
   |_=>A.fail
  |_=>A.fail
noncomputable def SV(d:Nat)(x:O)(i:O)(st:ag)(K:ag->R):R:=
 match aO gl st x,aO gl st i with
  |.d (.str s),.d (.int _ n)=>A.guard (decide (0<=n)&&decide (n<s.length)) (K (st.cU d (.d (fO (s.getD n.toNat 0)))))
  |_,_=>A.fail
noncomputable def SX(d:Nat)(x:O)(lo:Option O)(hi:Option O)(st:ag)(K:ag->R):R:=
 match aO gl st x with
  |.d (.str s)=>match bound gl st 0 lo,bound gl st s.length hi with
   |some l,some h=>A.guard (decide (0<=l)&&decide (l<=h)&&decide (h<=s.length)) (K (st.cU d (.d (.str ((s.drop l.toNat).take (h.toNat-l.toNat))))))
   |_,_=>A.fail
  |_=>A.fail
noncomputable def SY(d:Nat)(a:Nat)(x:O)(lo:Option O)(hi:Option O)(mx:Option O)(st:ag)(K:ag->R):R:=
 match aO gl st x with
  |.aP j off len cap sz=>match bound gl st 0 lo,bound gl st len hi,bound gl st cap mx with
   |some l,some h,some m=>A.guard (Nat.beq sz a&&decide (0<=l)&&decide (l<=h)&&decide (h<=m)&&decide (m<=cap)) (K (st.cU d (cond (decide (l=m)) (.d (.list sz [])) (.aP j (off+l.toNat*sz) (h.toNat-l.toNat) (m.toNat-l.toNat) sz))))
   |_,_,_=>A.fail
  |v=>match hJ v with
  |some (sz,s)=>match bound gl st 0 lo,bound gl st s.length hi,bound gl st s.length mx with
   |some l,some h,some m=>A.guard (Nat.beq sz a&&decide (0<=l)&&decide (l<=h)&&decide (h<=m)&&decide (m<=s.length)) (K (st.cU d (.d (.list sz ((s.drop l.toNat).take (h.toNat-l.toNat))))))
   |_,_,_=>A.fail
  |none=>A.fail
noncomputable def SZ(d:Nat)(f:Nat)(first:List O)(c:List O)(st:ag)(K:ag->R):R:=
 match first,c with
  |[],[]=>K (st.cU d (.d (.fn f)))
  |_,_=>
   let a:=first.map λx=>cX (snap (aO gl st x))
   let cs:=c.map λx=>cX (snap (aO gl st x));A.guard (a.all (eo depth)&&cs.all (eo depth)) (K (st.cU d (.func f a cs)))
noncomputable def S0(d:Option Nat)(f:O)(args:List O)(st:ag)(K:ag->R):R:=
 match aO gl st f with
  |.d (.fn f)=>lp A f (args.map (j' gl st)) st.s λr g=>K ({st with s:=g}.dQ d r)
  |.func f a c=>lp A f (a++args.map (j' gl st)++c) st.s λr g=>K ({st with s:=g}.dQ d r)
  |_=>A.fail
noncomputable def S1(d:Nat)(s:Nat)(x:O)(sz:Nat)(a:Nat)(st:ag)(K:ag->R):R:=
 hT A gl false false d s x sz a st K
noncomputable def S2(d:Nat)(str:Bool)(x:O)(st:ag)(K:ag->R):R:=
 match aO gl st x with
  |.aP _ _ len _ _=>A.guard (!str) (K (st.cU d (.d (.int .i64 len))))
  |.d (.str s)=>A.guard str (K (st.cU d (.d (.int .i64 s.length))))
  |v=>match hJ v with
   |some (_,l)=>A.guard (!str) (K (st.cU d (.d (.int .i64 l.length))))
   |none=>A.fail
noncomputable def S3(d:Nat)(x:O)(i:Nat)(st:ag)(K:ag->R):R:=
 match aO gl st x with
  |.tuple vs=>A.guard (Nat.blt i vs.length) (K (st.cU d (vs.getD i .undef)))
  |_=>A.fail
noncomputable def S4(d:Nat)(st:ag)(K:ag->R):R:=
 K ({st with s:=st.s++[cc.map []]}.cU d (.map st.s.length))
noncomputable def S5(d:Nat)(aw:Bool)(ks:List Nat)(m:O)(k:O)(z:ah)(a:Bool)(st:ag)(K:ag->R):R:=
 match hI (aO gl st k)with
  |none=>A.fail
  |some k=>A.guard (fc aw k&&(cG ks k.cells k.cells).isSome) <| match aO gl st m with
   |.d .h9=>K (st.cU d (cond a (.tuple [cX z,.d (.bool false)]) (cX z)))
   |.d (.lM kl c)=>match e4 aw ks k ((kl.zip c).map λe=>(e.1,.d e.2)) 0 with
    |some none=>K (st.cU d (cond a (.tuple [cX z,.d (.bool false)]) (cX z)))
    |some (some j)=>match c[j]? with
     |some v=>K (st.cU d (cond a (.tuple [.d v,.d (.bool true)]) (.d v)))
     |none=>A.fail
    |none=>A.fail
   |.map i=>match st.s.getD i .dead with
    |.map es=>match e4 aw ks k es 0 with
     |some none=>K (st.cU d (cond a (.tuple [cX z,.d (.bool false)]) (cX z)))
     |some (some j)=>match es[j]? with
      |some e=>K (st.cU d (cond a (.tuple [e.2,.d (.bool true)]) e.2))
      |none=>A.fail
     |none=>A.fail
    |_=>A.fail
   |_=>A.fail
noncomputable def S6(aw:Bool)(ks:List Nat)(m:O)(k:O)(x:O)(st:ag)(K:ag->R):R:=
 match aO gl st m,hI (aO gl st k)with
  |.map i,some k=>match st.s.getD i .dead with
   |.map es=>match e4 aw ks k es 0 with
    |some j=>A.guard (eo depth (cX (aO gl st x))&&fc aw k&&(cG ks k.cells k.cells).isSome) (K {st with s:=st.s.set i (.map (nI es k (cX (aO gl st x)) j))})
    |none=>A.fail
   |_=>A.fail
  |_,_=>A.fail
noncomputable def S7(d:Nat)(lt:Bool)(x:O)(y:O)(st:ag)(K:ag->R):R:=
 match aO gl st x,aO gl st y with
  |.d (.int k a),.d (.int k' b)=>A.guard (decide (k=k')) (K (st.cU d (.d (.int k (cond (cond lt (decide (b<a)) (decide (a<b))) b a)))))
  |_,_=>A.fail
noncomputable def S8(d:Nat)(neg:Bool)(a:Nat)(x:O)(st:ag)(K:ag->R):R:=
 match a with
  |0=>match xi (aO gl st x)with
   |some (_,_::_)=>K (st.cU d (.d (.bool neg)))
   |some (_,[])=>A.both (K (st.cU d (.d (.bool neg)))) (K (st.cU d (.d (.bool (!neg)))))
   |none=>A.fail
  |1=>match aO gl st x with
   |.map _=>K (st.cU d (.d (.bool neg)))
   |.d .h9=>K (st.cU d (.d (.bool (!neg))))
   |_=>A.fail
  |2=>match aO gl st x with
   |.func _ _ _|.d (.fn _)=>K (st.cU d (.d (.bool neg)))
   |.d .lL=>K (st.cU d (.d (.bool (!neg))))
   |_=>A.fail
  |4=>match aO gl st x with
   |.d (.iface _ _)|.d .ix=>K (st.cU d (.d (.bool neg)))
   |.d .iK=>K (st.cU d (.d (.bool (!neg))))
   |_=>A.fail
  |3=>match aO gl st x with
   |.ptr _ _|.d (.e2 _ _)=>K (st.cU d (.d (.bool neg)))
   |.d .dJ=>K (st.cU d (.d (.bool (!neg))))
   |_=>A.fail
  |_=>A.fail
noncomputable def S9(d:Nat)(k:Nat)(x:O)(y:O)(st:ag)(K:ag->R):R:=
 match aO gl st x,aO gl st y with
  |.d (.str a),.d (.str b)=>match IK k a b with
   |some r=>K (st.cU d (.d r))
   |none=>A.fail
  |_,_=>A.fail
noncomputable def S'(a:Option Nat)(st:ag)(K:ag->R):R:=
 A.fail
noncomputable def Ta(d:Option Nat)(st:ag)(K:ag->R):R:=
 K (st.dQ d .undef)
noncomputable def Tb(d:Nat)(s:Nat)(z:Nat)(i:Nat)(x:O)(sz:Nat)(c:Nat)(st:ag)(K:ag->R):R:=
 match st.aR s,tJ (st.aR z),st.aR i,hI (aO gl st x)with
  |.own g l,some (f,[_]),.d (.int _ n),some a=>
   A.guard (Nat.beq g sz&&Nat.beq f sz&&decide (n=l.length)&&Nat.ble (l.length+1) c&&Nat.beq a.cells.length sz&&a.cells.all jt) (K ((st.cU s .undef).cU d (.own sz (l++[a]))))
  |_,_,_,_=>A.fail
noncomputable def Tc(d:Nat)(s:Nat)(x:O)(sz:Nat)(a:Nat)(st:ag)(K:ag->R):R:=
 hT A gl true false d s x sz a st K
noncomputable def Td(d:Nat)(s:Nat)(x:O)(sz:Nat)(a:Nat)(st:ag)(K:ag->R):R:=
 hT A gl true true d s x sz a st K
noncomputable def Te(d:Nat)(sz:Nat)(xs:List O)(st:ag)(K:ag->R):R:=
  let vs:=xs.map λx=>cellsOf (gT (aO gl st x));A.guard (!xs.isEmpty&&vs.all λl=>Nat.beq l.length sz&&l.all kT) (K ({st with s:=st.s++[cc.box vs.flatten]}.cU d (.aP st.s.length 0 xs.length xs.length sz)))
noncomputable def Tf(d:Nat)(sz:Nat)(z:List ah)(n:O)(a:Nat)(st:ag)(K:ag->R):R:=
 match aO gl st n with
  |.d (.int _ n)=>A.guard (decide (0<=n)&&decide (n<=a)) (K ({st with s:=st.s++[cc.box (List.replicate n.toNat z).flatten]}.cU d (.aP st.s.length 0 n.toNat n.toNat sz)))
  |_=>A.fail
noncomputable def Tg(d:Option Nat)(x:O)(z:List ah)(st:ag)(K:ag->R):R:=
 match aO gl st x with
  |.aP i off len _ sz=>match st.s.getD i .dead with
   |.box cs=>A.guard (Nat.beq z.length sz&&Nat.ble (off+len*sz) cs.length) (K ({st with s:=st.s.set i (.box (putCells cs off (List.replicate len z).flatten))}.dQ d (.tuple [])))
   |_=>A.fail
  |v=>match hJ v with
   |some (_,[])=>K (st.dQ d (.tuple []))
   |_=>A.fail
noncomputable def Ti(d:Nat)(x:O)(i:O)(len:Nat)(sz:Nat)(aw:Bool)(st:ag)(K:ag->R):R:=
 match aO gl st i with
  |.d (.int _ n)=>
   let cs:=cellsOf (aO gl st x);A.guard (decide (0<=n)&&decide (n<len)&&xh (aO gl st x)&&Nat.ble (n.toNat*sz+sz) cs.length) (K (st.cU d (valOf cs (n.toNat*sz) sz aw)))
  |_=>A.fail
noncomputable def Tj(d:Nat)(t:Nat)(e:Nat)(st:ag)(K:ag->R):R:=
 K ({st with s:=st.s++[cc.h' t e []]}.cU d (.ptr st.s.length 0))
noncomputable def Tk(d:Nat)(a:O)(n:Nat)(st:ag)(K:ag->R):R:=
 match aO gl st a with
  |.ptr i off=>match tL i st.s off n with
   |some c=>match c.getD i .dead with
    |.box cs=>A.guard (Nat.ble (off+n) cs.length) (K ({st with s:=c}.cU d (valOf cs off n true)))
    |_=>A.fail
   |none=>A.fail
  |_=>A.fail
noncomputable def Tl(d:Nat)(own:Bool)(x:O)(st:ag)(K:ag->R):R:=
 match aO gl st x with
  |.aP k off len cap sz=>match pN st.s (.aP k off len cap sz)with
   |some (y,k)=>K ({st with s:=st.s.set k .dead}.cU d (cond own (match y with|.list sz l=>iL sz l|y=>.d y) (.d y)))
   |none=>A.fail
  |v=>K ((kill st x).cU d v)
noncomputable def Tm(d:Nat)(s:Nat)(a:Nat)(x:O)(st:ag)(K:ag->R):R:=
 match st.aR s,aO gl st x with
  |.own sz l,.d (.int _ n)=>A.guard (Nat.beq sz a&&decide (0<=n)&&decide (n<=l.length)&&!l.isEmpty) (K ((st.cU s .undef).cU d (iL sz (l.drop n.toNat))))
  |_,_=>A.fail
noncomputable def Tn(d:Nat)(x:O)(st:ag)(K:ag->R):R:=
 match x with
  |.t s=>match st.aR s with
   |.raw sz n cs=>K (({st with s:=st.s++[cc.box (jS cs)]}.cU s (.aP st.s.length 0 n n sz)).cU d (.aP st.s.length 0 n n sz))
   |.ptr i off=>match st.s.getD i .dead with
    |.box cs=>match qZ i st.s 0 cs.length with
     |some a=>K ({st with s:=a}.cU d (.ptr i off))
     |none=>A.fail
    |_=>A.fail
   |v=>K (st.cU d (snap v))
  |_=>A.fail
noncomputable def Gl(i:I):ag->(ag->R)->R:=@I.casesOn (λ_=>ag->(ag->R)->R) i (Sr gl) Ss (St gl) (Sv A gl) (Sw A) (Sx A gl) Sy (Sz A gl) (SA A gl) (SB A gl) (SC A gl) (SD A gl) (SE A gl) (SF A gl) (SG A gl) (SH A gl) (SI A gl) (SJ A gl) (SK A gl) (SL A gl) (SM A gl) (SN A gl) (SP A gl) (SQ A gl) (SR A gl) (SS A gl) (SU A gl) (SV A gl) (SX A gl) (SY A gl) (SZ A gl) (S0 A gl) (S1 A gl) (S2 A gl) (S3 A gl) S4 (S5 A gl) (S6 A gl) (S7 A gl) (S8 A gl) (S9 A gl) (S' A) Ta (Tb A gl) (Tc A gl) (Td A gl) (Te A gl) (Tf A gl) (Tg A gl) (Ti A gl) Tj (Tk A gl) (Tl A gl) (Tm A gl) (Tn A)
theorem To(i:I):Gl A gl i=step A gl i:=by
 funext st K;cases i<;>(simp only[Gl,step,Sr,Ss,St,Sv,Sw,Sx,Sy,Sz,SA,SB,SC,SD,SE,SF,SG,SH,SI,SJ,SK,SL,SM,SN,SP,SQ,SR,SS,SU,SV,SX,SY,SZ,S0,S1,S2,S3,S4,S5,S6,S7,S8,S9,S',Ta,Tb,Tc,Td,Te,Tf,Tg,Ti,Tj,Tk,Tl,Tm,Tn,ag.alK];try rfl)
def Tp(s:Nat)(w:Bool)(d:Option Nat)(f:ag->(ag->R)->R)(st:ag)(K:ag->R):R:=match st.aR s with
 |.d (.bool b)=>cond (cond w b (!b)) (f st K) (K (st.dQ d (.tuple [])))
 |.tuple []=>K (st.dQ d (.tuple []))
 |_=>A.fail
noncomputable def C1(g:cm):ag->(ag->R)->R:=@cm.casesOn (λ_=>ag->(ag->R)->R) g λa i=>
 @Option.casesOn (Nat×Bool) (λ_=>ag->(ag->R)->R) a (Gl A gl i) λp=>@Prod.casesOn Nat Bool (λ_=>ag->(ag->R)->R) p λs w=>Tp A s w i.dst (Gl A gl i)
theorem alL(g:cm)(st:ag)(K:ag->R):C1 A gl g st K=step1 A gl g st K:=by
 obtain⟨a,i⟩:=g;cases a with
 |none=>simp[C1,step1,To]
 |some p=>
  obtain⟨s,w⟩:=p;simp[C1,step1,To,Tp];rfl
theorem alM(g:cm)(l:List cm)(st:ag)(K:ag->R):steps A gl (g::l) st K=step1 A gl g st λst=>steps A gl l st K:=by
 obtain⟨a,i⟩:=g;grind[steps,step1]
noncomputable def K7(l:List cm):ag->(ag->R)->R:=@List.rec cm (λ_=>ag->(ag->R)->R) (λa K=>K a) (λg _ c a K=>C1 A gl g a λa=>c a K) l
theorem Tq:∀(l:List cm) (st:ag) (K:ag->R),K7 A gl l st K=steps A gl l st K
 |[],_,_=>rfl
 |g::l,st,K=>by
  rw[alM];show C1 A gl g st (λst=>K7 A gl l st K)=_;rw[alL];congr 1;funext st;exact Tq l st K
def Tr(a:ag->(aD->ag->R)->R)(K:aD->ag->R)(x:aD)(st:ag):R:=match x with
 |.normal=>a st K
 |x=>K x st
def K8(c:O)(a d:ag->(aD->ag->R)->R)(st:ag)(K:aD->ag->R):R:=match aO gl st c with
 |.d (.bool t)=>cond t (a st K) (d st K)
 |_=>A.fail
def Ts(i:Nat)(K:aD->ag->R)(x:aD)(st:ag):R:=match x with
 |.exit j=>cond (Nat.beq j i) (K .normal st) (K (.exit j) st)
 |x=>K x st
def Tt(ts a:List Nat)(n:Nat)(K:aD->ag->R)(c:ag->R)(x:aD)(st:ag):R:=match x with
 |.normal=>forget A n ts a st c
 |x=>K x st
def Tv(x:O)(ps:List Nat)(c a:ag->(aD->ag->R)->R)(st:ag)(K:aD->ag->R):R:=match aO gl st x with
 |.func g [] d=>pQ A gl c a ps g d st K
 |.d (.fn g)=>pQ A gl c a ps g [] st K
 |_=>A.fail
noncomputable def qi(c:eL):ag->(aD->ag->R)->R:=@eL.rec (λ_=>ag->(aD->ag->R)->R)
 (λa K=>K .normal a)
 (λl a K=>K7 A gl l a (K .normal))
 (λl m a K=>q3 A gl l m a (K .normal))
 (λ_ _=>A.fail)
 (λ_ _ f d a K=>f a (Tr d K))
 (λc _ _ f d=>K8 A gl c f d)
 (λi _ d a K=>d a (Ts i K))
 (λk g _ d a K=>forget A a.s.length k g a λp=>A.fix (λj o=>d j (Tt A k g j.s.length K o)) p)
 (λx n _ _ f d=>Tv A gl x n f d)
 (λi a K=>K (.exit i) a)
 (λa K=>K .ret a) c
theorem alN:∀(c:eL) (st:ag) (K:aD->ag->R),qi A gl c st K=run A gl c st K:=by
 intro c;induction c with
 |skip=>intro st K;rfl
 |ops l=>intro st K;exact Tq A gl l st _
 |any l n=>intro st K;rfl
 |bad=>intro st K;rfl
 |seq a b f d=>
  intro st K;show qi A gl a st (Tr (qi A gl b) K)=run A gl a st _;rw[f];congr 1;funext x st;cases x<;>first|rfl|exact d st K
 |cond c a b f d=>
  intro st K;show K8 A gl c (qi A gl a) (qi A gl b) st K=_;grind[K8,run]
 |block i b ih=>
  intro st K;show qi A gl b st (Ts i K)=run A gl b st _;rw[ih];congr 1
 |loop ts bs b ih=>
  intro st K;show forget A st.s.length ts bs st (λm=>A.fix (λg k=>qi A gl b g (Tt A ts bs g.s.length K k)) m)=_;simp[run,ih];rfl
 |iy x ps a b f d=>
  intro st K;show Tv A gl x ps (qi A gl a) (qi A gl b) st K=_;have j:qi A gl a=run A gl a:=az9;have au:qi A gl b=run A gl b:=az9;rw[j,au];rfl
 |exit i=>intro st K;rfl
 |ret=>intro st K;rfl
def alO(a:List oW)(K:ah->aY->R)(n:Nat)(x:aD)(st:ag):R:=match x with
 |.exit _=>A.fail
 |_=>match q4 st a with
  |some r=>A.guard (eo depth r) (K r (gc n r st.s))
  |none=>A.fail
noncomputable def Gn(a:aW)(args:List ah)(s:aY)(K:ah->aY->R):R:=
 qi A gl a.code ⟨sg args 0,λ_=>none,s⟩ (alO A a.res K s.length)
theorem alP(a:aW)(args:List ah)(s:aY)(K:ah->aY->R):Gn A gl a args s K=mf A gl a args s K:=by
 unfold Gn mf;rw[alN];congr 1
end
noncomputable def Gp(n:Nat):(ag->(ag->Out)->Out)->ag->Out:=@Nat.rec (λ_=>(ag->(ag->Out)->Out)->ag->Out) (λ_ _=>none) (λ_ a F c=>F c (a F)) n
theorem Tw:∀(n:Nat) (F:ag->(ag->Out)->Out) (st:ag),Gp n F st=wj n F st
 |0,_,_=>rfl
 |n+1,F,st=>by
  show F st (Gp n F)=F st _;congr 1;funext st;exact Tw n F st
def alQ(b:Bool)(p:Out):Out:=cond b p none
def alR(a:Nat->List ah->aY->Out)(f:Nat)(args:List ah)(s:aY)(K:ah->aY->Out):Out:=match a f args s with
 |some (r,c)=>K r c
 |none=>none
def alS(p q:Out):Out:=match p,q with
 |some a,some b=>cond (CO a b) (some a) none
 |_,_=>none
def alT(tab:Nat->Option aW)(g:Nat)(k:aW->Out):Out:=match tab g with
 |some a=>k a
 |none=>none
noncomputable def Gq(tab:Nat->Option aW)(a:Nat->List ah->aY->Out)(c:Nat):mT Out:=⟨none,alQ,alR a,Gp c,alS,alT tab⟩
theorem alU(tab:Nat->Option aW)(a:Nat->List ah->aY->Out)(fuel:Nat):Gq tab a fuel=gi tab a fuel:=by
 have h:Gp fuel=λF st=>wj fuel F st:=by
  grind[Tw]
 unfold Gq;rw[h];rfl
noncomputable def rK(ext:Nat->List ah->aY->Out)(tab:Nat->Option aW)(gl:Nat->List D)(d n:Nat):Nat->List ah->aY->Out:=
 @Nat.rec (λ_=>Nat->List ah->aY->Out) (λ_ _ _=>none) (λ_ g f a s=>match ext f a s with
  |some r=>some r
  |none=>match tab f with
   |some c=>Gn (Gq tab g d) gl c a s λr j=>some (r,j)
   |none=>none) n
theorem Tx(ext:Nat->List ah->aY->Out)(tab:Nat->Option aW)(gl:Nat->List D)(a:Nat):∀n,rK ext tab gl a n=CU ext tab gl a n
 |0=>rfl
 |n+1=>by
  funext f args s;show(match ext f args s with
   |some r=>some r
   |none=>match tab f with
    |some c=>Gn (Gq tab (rK ext tab gl a n) a) gl c args s λr d=>some (r,d)
    |none=>none)=_
  rw[Tx ext tab gl a n,alU];simp[alP];rfl
def ye:List ah->List ah->Bool
 |[],[]=>true
 |a::l,b::m=>s6 depth a b&&ye l m
 |_,_=>false
def s8:aY->aY->Bool
 |[],[]=>true
 |a::l,b::m=>AE a b&&s8 l m
 |_,_=>false
theorem Ty:∀{a b:List ah},ye a b=true->a=b
 |[],[],_=>rfl
 |[],_::_,h=>by grind[ye]
 |_::_,[],h=>by grind[ye]
 |a::l,b::m,h=>by
  simp[ye,aCx]at h;rw[CQ _ _ _ h.1,Ty h.2]
theorem Tz:∀{a b:aY},s8 a b=true->a=b
 |[],[],_=>rfl
 |[],_::_,h=>by grind[s8]
 |_::_,[],h=>by grind[s8]
 |a::l,b::m,h=>by
  simp[s8,aCx]at h;rw[R4 _ _ h.1,Tz h.2]
def uS(f:Nat)(args:List ah)(s:aY)(r:ah)(s':aY)(base:Nat->List ah->aY->Out):Nat->List ah->aY->Out:=λc a d=>
 cond (Nat.beq c f) (cond (ye a args) (cond (s8 d s) (some (r,s')) (base c a d)) (base c a d)) (base c a d)
theorem yf{P:Program}{gl:Nat->List D}{f:Nat}{args:List ah}{s:aY}{r:ah}{s':aY}{base:Nat->List ah->aY->Out}(au:hP P gl base)(h:bD P gl f args s r s'):hP P gl (uS f args s r s' base):=by
 intro g d j l k bB;unfold uS at bB;cases h1:Nat.beq g f with
 |false=>rw[h1]at bB;exact au _ _ _ _ _ bB
 |true=>
  cases a:ye d args with
  |false=>rw[h1,a]at bB;exact au _ _ _ _ _ bB
  |true=>
   cases c:s8 j s with
   |false=>rw[h1,a,c]at bB;exact au _ _ _ _ _ bB
   |true=>
    rw[h1,a,c]at bB;grind[Nat.eq_of_beq_eq_true,Ty,Tz]
def K9(P:Program):List (Nat×aW)->Prop
 |[]=>True
 |p::l=>a6 P p.1 p.2/\K9 P l
def Gr(P:Program):List (List (Nat×aW))->Prop
 |[]=>True
 |l::m=>K9 P l/\Gr P m
def C2(f:Nat):List (Nat×aW)->Option aW
 |[]=>none
 |p::l=>cond (Nat.beq f p.1) (some p.2) (C2 f l)
def Gs(f:Nat):Nat->List (List (Nat×aW))->Option aW
 |_,[]=>none
 |0,l::_=>C2 f l
 |n+1,_::m=>Gs f n m
theorem TA{P:Program}{f:Nat}{a:aW}:∀{l:List (Nat×aW)},K9 P l->C2 f l=some a->a6 P f a
 |[],_,h=>by grind[C2]
 |p::l,bn,h=>by
  simp[C2]at h;cases au:Nat.beq f p.1 with
  |true=>
   rw[au]at h;simp at h;rw[<-h,aCG au];exact bn.1
  |false=>rw[au]at h;exact TA bn.2 h
theorem TB{P:Program}{f:Nat}{a:aW}:∀{n:Nat} {m:List (List (Nat×aW))},Gr P m->Gs f n m=some a->a6 P f a
 |_,[],_,h=>by grind[Gs]
 |0,l::m,bn,h=>TA bn.1 h
 |n+1,l::m,bn,h=>TB (n:=n) (m:=m) bn.2 h
def TC(m:List (List (Nat×aW)))(f:Nat):Option aW:=Gs f (f/16) m
theorem alV{P:Program}{m:List (List (Nat×aW))}(h:Gr P m):wk P (TC m):=λ_ _ a=>TB h a
theorem uT{P:Program}{gl:Nat->List D}{tab:Nat->Option aW}{ext:Nat->List ah->aY->Out}{a:Nat}(d:hP P gl ext)(c:wk P tab)(n:Nat):hP P gl (rK ext tab gl a n):=by
 grind[Tx,alp]
def aCZ:=@Go.run_underlying
def aDZ:=@Go.Lib.cell_of_heap
def aF':=@Go.Lib.byteCells_length
def aFw:=@Go.Proofs.Body.n169_ntmps
def aGa:=@Go.Proofs.Any.unsafeString_none
theorem aB9(h:p:=by have o0:w.drew.heap[g]?=some (.cells cur (ρ.t 5) fz):=aF;grind[World.shape?]):p:=h
open Go.Shelf Go.RowKit Go.Proofs
section
variable {P:Program}{w:World}
theorem alW(t u ty e:TypeId)(i:TypeInfo)(j:P.underlying t=some (.slice e))(l:P.underlying u=some .string)(hi:P.info? e=some i)(z:i.zero=some (.int .u8 0))
  (E:i.size=1) (p:i.bytes=1) (v:Value) (n:Nat) (xs:List Value) (o:w.ownsRowF 0 e 1 v n xs) (s:ByteArray) (G:n+s.size<=maxLen) (H:n+s.size<=140737488355328):
  ∃f w',(Builtin.append_ #[t,u] ty #[v,.string s]).run P w=.ok f w'/\w'.ownsRowF 0 e 1 f (n+s.size) (xs++Lib.strCells s)/\w.grownBy w' v.ownBlock/\(∀g,f.ownBlock=some g->v.ownBlock=some g\/w.heap.size<=g)/\
   ∀g c fz,v.ownBlock=some g->w.heap[g]?=some (.cells c e fz)->∃F R,w'.heap[g]?=some (.cells F e R)/\F.size=c.size:=by
 obtain⟨f,w',h1,J,L,-⟩:=Lib.run_append_own_stringF w 0 t u ty e i j l hi z E p v n xs o s G H (aCu _);refine⟨f,w',h1,J,L,?_⟩;rcases o.2 with⟨rfl,rfl⟩|⟨g,cap,c,fz,rfl,_,r,o4,V,Y,gX,Z⟩
 .obtain⟨v2,b5,C,Q,-,-⟩:=Lib.run_append_own_stringF w w.heap.size t u ty e i j l hi z E p (.slice none 0 0) 0 xs ⟨o.1,.inl ⟨rfl,rfl⟩⟩ s G H (aCw _);rw[h1]at C;injection C with C X
  refine⟨λk B=> ?_,λg c fz m _=>by grind[Value.ownBlock]⟩;rcases Q.2 with⟨rfl,_⟩|⟨oz,_,_,_,rfl,au,_⟩
  all_goals grind[Value.ownBlock]
 .by_cases U:n+s.size<=cap
  .have a:=Lib.run_append_room_stringF (P:=P) w t u ty e i j l hi E g n cap c fz r az6 s U az6;rw[h1]at a;injection a with a A
   subst a;refine⟨λk B=>.inl B,λg2 K S m d=> ?_⟩;simp[Value.ownBlock,aCz]at m;subst m;rw[r]at d;simp at d;obtain⟨rfl,_,rfl⟩:=d;subst A;refine⟨_,_,setRow_heap w g c _ e _ r,?_⟩;grind[Lib.strCells_length]
  .have N:=o.cells (g:=g) rfl;have a:=Lib.run_append_grow_string (P:=P) w t u ty e i (.int .u8 0) j l hi z ⟨g,0,none⟩ n cap xs az9 N s az6 az6 (by rw[p];exact growslice_fits az6 az6);rw[h1]at a;injection a with a A
   subst a;refine⟨λk B=> ?_,λg2 K S m d=> ?_⟩
   .grind[Value.ownBlock]
   .subst A;have M:=(aC'.1 d).1;exact⟨_,_,(Lib.alloc_old w.drew _ g2 M).trans d,rfl⟩
def La(v:Value)(e:TypeId)(w w':World):Prop:=∀g c d,v.ownBlock=some g->w.heap[g]?=some (.cells c e d)->∃a f,w'.heap[g]?=some (.cells a e f)/\a.size=c.size
theorem al0{ops:Array Oper}{rest:List Oper}{o:Oper}{a:Act}{Q:Exit->Act->World->Prop}(J:o.guard=none)(d x:Operand)(t u:TypeId)
  (F:o.op=.call {callee:=.builtin .append,args:= #[d,x],argTypes:= #[t,u]})
  (e:TypeId) (i:TypeInfo) (m:P.underlying t=some (.slice e)) (H:P.underlying u=some .string) (hi:P.info? e=some i) (p:i.zero=some (.int .u8 0)) (M:i.size=1) (f:i.bytes=1)
  (v:Value) (n:Nat) (xs:List Value) (G:a.eval d=v) (L:w.ownsRowF 0 e 1 v n xs) (s:ByteArray) (A:a.eval x=.string s) (j:n+s.size<=maxLen) (k:n+s.size<=140737488355328)
  (h:∀c w',w'.ownsRowF 0 e 1 c (n+s.size) (xs++Lib.strCells s)->w.grownBy w' v.ownBlock->(∀g,c.ownBlock=some g->v.ownBlock=some g\/w.heap.size<=g)->La v e w w'->
   wpList P ops Q rest (a.put o.dst c) w'):wpList P ops Q (o::rest) a w:=by
 refine wpList_plain J λK B=> ?_;obtain⟨c,w',l,z,C,r,E⟩:=alW (P:=P) (w:=w) t u o.type e i m H hi p M f v n xs L s j k;unfold Oper.wp execOp;simp[F,resolve,invoke,builtin,aCD,aCK,aCH,aEj,aDe,aD2,G,A,l];exact B _ _ (h c w' z C r E)
end
def qj(t e b:Nat)(p v:Value)(a:List Value)(w:World):Prop:=
 w.heap[b]?=some (.cells #[p,v] t (0,0))/\(p=.pointer none\/p=.pointer (some ⟨b,0,none⟩))/\w.ownsRowF 0 e 1 v a.length a/\v.ownBlock≠some b
structure C5(b:Nat)(v:Value)(w w':World):Prop where
 os:w'.os=w.os
 out:w'.output=w.output
 size:w.heap.size<=w'.heap.size
 block:∀k,k<w.heap.size->k≠b->v.ownBlock≠some k->w'.heap[k]?=w.heap[k]?
section
variable {P:Program}{ρ:Ren}{w:World}
theorem al1(L:Lays.n240 P ρ)(X:Builder.X72 P ρ){b:Nat}{p v:Value}{c:List Value}(h:qj (ρ.t 72) (ρ.t 5) b p v c w):
  Calls P (ρ.f 240) #[.pointer (some ⟨b,0,none⟩)] w λe w'=>e=.returned (.tuple #[])/\qj (ρ.t 72) (ρ.t 5) b (.pointer (some ⟨b,0,none⟩)) v c w'/\w'.os=w.os/\w'.output=w.output/\w'.heap.size=w.heap.size/\∀k,k≠b->w'.heap[k]?=w.heap[k]?:=by
 obtain⟨h1,g,f,d⟩:=h;have a:Lib.BuilderAtF (ρ.t 72) (ρ.t 5) 0 b p c w:=⟨aCu _,v,h1,f,d⟩;rcases g with rfl|rfl
 .refine(Any.Builder_copyCheck_fresh L X b w a.cell0 a.shape a.frozen0).mono ?_;rintro e w' ⟨rfl,rfl⟩;obtain⟨_,m,g1,g2,g3⟩:=a.used (.pointer (some ⟨b,0,none⟩));have l:m=v:=by
   grind[World.setCell]
  subst l;exact⟨rfl,⟨g1,.inr rfl,g2,g3⟩,rfl,rfl,az7,λk j=>Below.heap_setCell _ _ _ _ (λe=>j az6)⟩
 .refine(Any.Builder_copyCheck_used L X b w a.cell0).mono ?_;rintro e w' ⟨rfl,rfl⟩;exact⟨rfl,⟨h1,.inr rfl,f,d⟩,rfl,rfl,rfl,λ_ _=>rfl⟩
theorem al2(L:Lays.n166 P ρ)(X:Builder.Extra P ρ){b:Nat}{p v:Value}{d:List Value}(s:ByteArray)(h:qj (ρ.t 72) (ρ.t 5) b p v d w)(aM:d.length+s.size<=140737488355328):
  Calls P (ρ.f 166) #[.pointer (some ⟨b,0,none⟩),.string s] w λe w'=>e=.returned (.tuple #[.int .i64 s.size,.nilIface])/\C5 b v w w'/\
   ∃k,qj (ρ.t 72) (ρ.t 5) b (.pointer (some ⟨b,0,none⟩)) k (d++Lib.strCells s) w'/\(∀g,k.ownBlock=some g->v.ownBlock=some g\/w.heap.size<=g)/\
   La v (ρ.t 5) w w':=by
 obtain⟨R,Q,U,V,N⟩:=info_parts X.infoByte;have aN:=L.mixed;have aU:=L.t72;have ar:=L.a72;have bt:=L.z72;have bk:=L.v72;have Gu:=aCZ L.t72;have aR:=L.t70;have ao:=L.a70;have br:=L.z70;have bh:=L.v70;have Gv:=aCZ L.t70;have aQ:=L.t37;have ai:=L.a37;have bn:=L.z37;have bg:=L.v37;have Gw:=aCZ L.t37;have t3:=L.t3;have a3:=L.a3;have z3:=L.z3;have v3:=L.v3;have fa:=aCZ L.t3;have t9:=L.t9;have a9:=L.a9;have z9:=L.z9;have v9:=L.v9;have lC:=aCZ L.t9;have t4:=L.t4;have a4:=L.a4;have z4:=L.z4;have v4:=L.v4;have fG:=aCZ L.t4;have aP:=L.t164;have ad:=L.a164;have bm:=L.z164;have aZ:=L.v164;have aB:=aCZ L.t164;have t5:=X.t5;have a5:=X.a5;have z5:=X.z5;have v5:=X.v5;have g':=aCZ X.t5;have aI:∀o w,(callFunc (ρ.f 240) o).run P w=.ok (.enter (ρ.f 240) o) w:=enters_of L.f240 az5 rfl;go_enter L.f166,Body.n166_ntmps ρ;go_wp2_with (refine(al1 {L with} X.toX72 h).mono ?_);rintro e m ⟨rfl,⟨z,_,S,J⟩,F,G,cj,K⟩;have c0:m.cell? ⟨b,0,none⟩=some (.pointer (some ⟨b,0,none⟩)):=by rw[aDZ z];rfl
 have c1:m.cell? ⟨b,1,none⟩=some v:=by rw[aDZ z];rfl
 go_wp2_with (refine al0 rfl _ _ (ρ.t 37) (ρ.t 9) rfl (ρ.t 5) R L.t37 L.t9 Q U V N _ _ _ rfl S s rfl ?c3 ?c4 ?_)
 case c3=>grind[maxLen]
 case c4=>omega
 intro k b5 n l jF C;have ay:b<m.heap.size:=az9;have f:b5.heap[b]?=some (.cells #[.pointer (some ⟨b,0,none⟩),v] (ρ.t 72) (0,0)):=by
  grind[World.grownBy.block]
 have d0:b5.cell? ⟨b,0,none⟩=some (.pointer (some ⟨b,0,none⟩)):=by rw[aDZ f];rfl
 have d1:b5.cell? ⟨b,1,none⟩=some v:=by rw[aDZ f];rfl
 have f1:=Lib.frozen_of_heap f 1;obtain⟨c,j,cap,rfl⟩:∃c j cap,k=.slice c j cap:=by
  rcases n.2 with⟨a,_⟩|⟨g,cap,t,u,a,_⟩
  .simp_all
  simp_all
 have M:=Lib.BuilderAtF.put (T:=(ρ.t 72)) (e:=(ρ.t 5)) (aCu b) f (bs':=d++Lib.strCells s) (by simpa [Lib.strCells_length]using n) X.neB5;go_wp2;go_ret2;refine⟨rfl,⟨?_,?_,?_,?_⟩,.slice c j cap,?_,?_,?_⟩
 .show b5.os=w.os;rw[l.os,F]
 .show b5.output=w.output;rw[l.output,G]
 .have:=l.size;simp_all
 .grind[Below.heap_setCell,World.grownBy.block]
 .obtain⟨_,Y,A,r,H⟩:=M;have a:Y=.slice c j cap:=by
   grind[World.setCell]
  subst a;exact⟨A,.inr rfl,r,H⟩
 .omega
 .intro g t u a E;have B:g≠b:=λe=>J az8;obtain⟨Z,p0,A,r⟩:=C g t u a ((K g B).trans E);grind[Below.heap_setCell]
def Lc(v:Value)(n:Nat)(w w':World):Prop:=
 w'=w.drew\/(∃a e,w'=w.drew.alloc (.view a e))\/∃g c,v=.slice (some ⟨g,0,none⟩) n c/\n≠0/\w'=w.drew.freeze ⟨g,0,none⟩ n
theorem al5(L:Lays.n169 P ρ)(X:Builder.Extra P ρ){b:Nat}{p v:Value}{l:List UInt8}(h:qj (ρ.t 72) (ρ.t 5) b p v (Lib.byteCells l) w)(bB:l≠[]):
  Calls P (ρ.f 169) #[.pointer (some ⟨b,0,none⟩)] w λe w'=>e=.returned (.string ⟨l.toArray⟩)/\Lc v l.length w w':=by
 obtain⟨d,_,c,Q⟩:=h;have f:l.length≠0:=az8;rw[aF']at c;obtain⟨g,a,cur,fz,rfl,aF,Z,o,K,U,M⟩:∃g a cur fz,v=.slice (some ⟨g,0,none⟩) l.length a/\w.heap[g]?=some (.cells cur (ρ.t 5) fz)/\fz.2<=l.length*1/\l.length<=a/\a<=maxLen/\cur.size=a*1/\cur.toList.take (l.length*1)=Lib.byteCells l:=by
  rcases c.2 with⟨_,aM⟩|⟨g,a,cur,fz,hv,_,r⟩
  all_goals grind
 have N:w.drew.cell? ⟨b,1,none⟩=some (.slice (some ⟨g,0,none⟩) l.length a):=by
  have:w.drew.heap[b]?=some (.cells #[p,.slice (some ⟨g,0,none⟩) l.length a] (ρ.t 72) (0,0)):=d;rw[aDZ this];rfl
 have s:(Builtin.unsafeSliceData_ #[(ρ.t 37)] (ρ.t 127) #[.slice (some ⟨g,0,none⟩) l.length a]).run P w.drew=.ok (.pointer (some ⟨g,0,none⟩)) w.drew:=
  Lib.run_unsafeSliceData_row _ _ _ _ _ _ az6
 have u:=by
  refine Lib.run_unsafeString_row w.drew (ρ.t 127) (ρ.t 3) (ρ.t 9) (ρ.t 5) L.t127 X.cellsByte g cur.size aB9 l bB az6 (by grind[maxLen]) ?_;intro j x J;have:=c.cells (g:=g) rfl j (.int .u8 x.toNat) (by grind[Lib.byteCells]);simp_all
 have Y:=L.mixed;have ay:=L.t72;have G:=L.a72;have aZ:=L.z72;have aP:=L.v72;have k:=aCZ L.t72;have ar:=L.t70;have F:=L.a70;have aU:=L.z70;have aN:=L.v70;have m:=aCZ L.t70;have ao:=L.t37;have C:=L.a37;have aR:=L.z37;have aI:=L.v37;have n:=aCZ L.t37;have ad:=L.t127;have A:=L.a127;have aQ:=L.z127;have aB:=L.v127;have z:=aCZ L.t127;have t3:=L.t3;have B:=L.a3;have z3:=L.z3;have v3:=L.v3;have R:=aCZ L.t3;have t9:=L.t9;have H:=L.a9;have z9:=L.z9;have v9:=L.v9;have V:=aCZ L.t9;have t5:=X.t5;have E:=X.a5;have z5:=X.z5;have v5:=X.v5;have S:=aCZ X.t5;go_enter L.f169,aFw ρ;go_wp2;go_region_o;all_goals (go_wp2;go_ret;exact⟨rfl,.inr (.inr ⟨g,a,rfl,f,rfl⟩)⟩)
theorem al6(L:Lays.n169 P ρ)(X:Builder.Extra P ρ){b:Nat}{p:Value}(a:w.heap[b]?=some (.cells #[p,.slice none 0 0] (ρ.t 72) (0,0))):
  Calls P (ρ.f 169) #[.pointer (some ⟨b,0,none⟩)] w λe w'=>e=.returned (.string ⟨#[]⟩)/\w'=w.drew:=by
 have j:=aGa L X;have u:w.drew.cell? ⟨b,1,none⟩=some (.slice none 0 0):=by
  have:w.drew.heap[b]?=some (.cells #[p,.slice none 0 0] (ρ.t 72) (0,0)):=a;rw[aDZ this];rfl
 have g:(Builtin.unsafeSliceData_ #[(ρ.t 37)] (ρ.t 127) #[.slice none 0 0]).run P w.drew=.ok (.pointer none) w.drew:=rfl;have B:=L.mixed;have J:=L.t72;have s:=L.a72;have ao:=L.z72;have U:=L.v72;have c:=aCZ L.t72;have H:=L.t70;have r:=L.a70;have ai:=L.z70;have S:=L.v70;have d:=aCZ L.t70;have F:=L.t37;have n:=L.a37;have ad:=L.z37;have Q:=L.v37;have f:=aCZ L.t37;have C:=L.t127;have l:=L.a127;have Y:=L.z127;have M:=L.v127;have k:=aCZ L.t127;have E:=L.t3;have m:=L.a3;have Z:=L.z3;have N:=L.v3;have v:=aCZ L.t3;have K:=L.t9;have t:=L.a9;have z9:=L.z9;have V:=L.v9;have A:=aCZ L.t9;have G:=X.t5;have o:=X.a5;have z5:=X.z5;have R:=X.v5;have z:=aCZ X.t5;go_enter L.f169,aFw ρ;go_wp2;go_region_o;all_goals (go_wp2;go_ret;exact⟨rfl,rfl⟩)
theorem al7(L:Lays.n169 P ρ)(X:Builder.Extra P ρ){b g:Nat}{p:Value}{cur:Array Value}{fz:Nat×Nat}(c:w.heap[b]?=some (.cells #[p,.slice (some ⟨g,0,none⟩) 0 0] (ρ.t 72) (0,0)))(aF:w.heap[g]?=some (.cells cur (ρ.t 5) fz)):
  Calls P (ρ.f 169) #[.pointer (some ⟨b,0,none⟩)] w λe w'=>e=.returned (.string ⟨#[]⟩)/\∃a e,w'=w.drew.alloc (.view a e):=by
 have o:=aGa L X;have d:b<w.heap.size:=az9;have f:w.drew.cell? ⟨b,1,none⟩=some (.slice (some ⟨g,0,none⟩) 0 0):=by
  have:w.drew.heap[b]?=some (.cells #[p,.slice (some ⟨g,0,none⟩) 0 0] (ρ.t 72) (0,0)):=c;rw[aDZ this];rfl
 have n:(Builtin.unsafeSliceData_ #[(ρ.t 37)] (ρ.t 127) #[.slice (some ⟨g,0,none⟩) 0 0]).run P w.drew=.ok (.pointer (some ⟨w.drew.heap.size,0,none⟩)) (w.drew.alloc (.view ⟨g,0,none⟩ (ρ.t 5))):=
  Lib.run_unsafeSliceData_zero w.drew _ _ (ρ.t 5) L.t127 ⟨g,0,none⟩ 0 ((ρ.t 5),cur.size) aB9
 have j:(w.drew.alloc (.view ⟨g,0,none⟩ (ρ.t 5))).cell? ⟨b,1,none⟩=some (.slice (some ⟨g,0,none⟩) 0 0):=by
  have:(w.drew.alloc (.view ⟨g,0,none⟩ (ρ.t 5))).heap[b]?=_:=(Lib.alloc_old w.drew _ b d).trans c;rw[aDZ this];rfl
 have F:=j;have E:w.cell? ⟨b,1,none⟩=some (.slice (some ⟨g,0,none⟩) 0 0):=f;have K:=L.mixed;have U:=L.t72;have B:=L.a72;have aM:=L.z72;have ao:=L.v72;have k:=aCZ L.t72;have S:=L.t70;have A:=L.a70;have aI:=L.z70;have ai:=L.v70;have l:=aCZ L.t70;have Q:=L.t37;have v:=L.a37;have aB:=L.z37;have ad:=L.v37;have m:=aCZ L.t37;have M:=L.t127;have s:=L.a127;have ar:=L.z127;have Y:=L.v127;have r:=aCZ L.t127;have N:=L.t3;have u:=L.a3;have z3:=L.z3;have Z:=L.v3;have G:=aCZ L.t3;have V:=L.t9;have C:=L.a9;have z9:=L.z9;have v9:=L.v9;have J:=aCZ L.t9;have R:=X.t5;have z:=X.a5;have z5:=X.z5;have v5:=X.v5;have H:=aCZ X.t5;go_enter L.f169,aFw ρ;go_wp2;go_region_o;all_goals (go_wp2;go_ret;exact⟨rfl,_,_,rfl⟩)
theorem al8(L:Lays.n169 P ρ)(X:Builder.Extra P ρ){b g cap:Nat}{p:Value}(c:cap≠0)(a:w.heap[b]?=some (.cells #[p,.slice (some ⟨g,0,none⟩) 0 cap] (ρ.t 72) (0,0))):
  Calls P (ρ.f 169) #[.pointer (some ⟨b,0,none⟩)] w λe w'=>e=.returned (.string ⟨#[]⟩)/\w'=w.drew:=by
 have l:=aGa L X;have z:w.drew.cell? ⟨b,1,none⟩=some (.slice (some ⟨g,0,none⟩) 0 cap):=by
  have:w.drew.heap[b]?=some (.cells #[p,.slice (some ⟨g,0,none⟩) 0 cap] (ρ.t 72) (0,0)):=a;rw[aDZ this];rfl
 have k:(Builtin.unsafeSliceData_ #[(ρ.t 37)] (ρ.t 127) #[.slice (some ⟨g,0,none⟩) 0 cap]).run P w.drew=.ok (.pointer (some ⟨g,0,none⟩)) w.drew:=
  Lib.run_unsafeSliceData_row _ _ _ _ _ _ c
 have E:=L.mixed;have M:=L.t72;have u:=L.a72;have ar:=L.z72;have Y:=L.v72;have d:=aCZ L.t72;have K:=L.t70;have t:=L.a70;have ao:=L.z70;have V:=L.v70;have f:=aCZ L.t70;have H:=L.t37;have r:=L.a37;have ai:=L.z37;have S:=L.v37;have j:=aCZ L.t37;have F:=L.t127;have n:=L.a127;have ad:=L.z127;have Q:=L.v127;have m:=aCZ L.t127;have G:=L.t3;have o:=L.a3;have z3:=L.z3;have R:=L.v3;have A:=aCZ L.t3;have N:=L.t9;have v:=L.a9;have z9:=L.z9;have Z:=L.v9;have C:=aCZ L.t9;have J:=X.t5;have s:=X.a5;have z5:=X.z5;have U:=X.v5;have B:=aCZ X.t5;go_enter L.f169,aFw ρ;go_wp2;go_region_o;all_goals (go_wp2;go_ret;exact⟨rfl,rfl⟩)
theorem al9(L:Lays.n169 P ρ)(X:Builder.Extra P ρ){b:Nat}{p v:Value}{l:List UInt8}(h:qj (ρ.t 72) (ρ.t 5) b p v (Lib.byteCells l) w):
  Calls P (ρ.f 169) #[.pointer (some ⟨b,0,none⟩)] w λe w'=>e=.returned (.string ⟨l.toArray⟩)/\Lc v l.length w w':=by
 cases l with
 |cons x r=>grind[al5]
 |nil=>
  obtain⟨a,_,j,m⟩:=h;rcases j.2 with⟨rfl,_⟩|⟨g,cap,cur,n,rfl,k,d,_,_,_,_⟩
  .refine(al6 L X a).mono ?_;rintro e w' ⟨rfl,rfl⟩;exact⟨rfl,.inl rfl⟩
  .by_cases c:cap=0
   .subst c;refine(al7 L X a d).mono ?_;rintro e w' ⟨rfl,f⟩;exact⟨rfl,.inr (.inl f)⟩
   .refine(al8 L X c a).mono ?_;rintro e w' ⟨rfl,rfl⟩;exact⟨rfl,.inl rfl⟩
end
def aFx:=@Nat.succ_pos
def aEW:=@Nat.lt_irrefl
open Go.RowKit
section
variable {P:Program}{gl:Nat->List D}{w w':World}{G:bL}{ρ:List Nat}
theorem Lh{b off:Nat}{v:Value}(h:w.cell? ⟨b,off,none⟩=some v):b<w.heap.size:=aA6
theorem TE(h:Below w.heap.size w w'):de w G w' G:=by
 refine⟨λb l v f=>⟨?_,f.2⟩,λb o j=> ?_,λb n k=> ?_⟩
 .rw[aE9 (h.block b (Lh f.1))];exact f.1
 .obtain⟨h1,d,a⟩:=j;exact⟨h1,d,(h.block b (aC'.1 a).1).trans a⟩
 .obtain⟨c,E,g,a,d⟩:=k;exact⟨c,E,g,(h.block b (aC'.1 a).1).trans a,d⟩
theorem TF(a:∀b L n,G b=some (L,n)->b<w.heap.size)(h:Below w.heap.size w w')(L:Loc):e5 L L w G w' G:=λb c au=>⟨h.block b (a _ _ _ au),au⟩
theorem ama(a:∀b L n,G b=some (L,n)->b<w.heap.size)(h:Below w.heap.size w w'):Good w G w' G where
 size:=h.size
 iN b au _:=⟨h.block b au,rfl⟩
 new _b c au dh:=absurd (a _ _ _ dh) (aDT.2 au)
 old _ _ _ h:=h
 keep:=TE h
 os:=h.os
 out:=h.output
theorem wo{f:Nat}{args:List ah}{s:aY}{r:ah}(m:gq P f)
  (h:∀(w:World) (G:bL) (ρ:List Nat) (vs:List Value),gK w G ρ s->pU gl w G->cu w G ρ vs args->∃R:Ending->World->Prop,Calls P f ⟨vs⟩ w R/\∀e w',R e w'->∃v,e=.returned v/\(∀w':World,dp w' G ρ .res v r)/\Below w.heap.size w w'):
  bD P gl f args s r s:=by
 refine⟨m,λw G ρ vs c g a p=> ?_⟩;obtain⟨R,k,l⟩:=h w G ρ vs c g p;refine k.mono ?_;intro e w' o;obtain⟨v,rfl,d,au⟩:=l e w' o;exact⟨v,G,ρ,rfl,d w',c.b0 (TE au) (λi=>TF a au _) (λi j=>TF a au _),λb L n h=>aC2 (a b L n h) au.size,ama a au,λ_ _ h=>h⟩
def s9(sep:List UInt8):List (List UInt8)->List UInt8
 |[]=>[]
 |a::l=>a++(l.flatMap λx=>sep++x)
theorem TG(sep:List UInt8)(l:List (List UInt8)):Lib.join l sep=s9 sep l:=by
 cases l with
 |nil=>rfl
 |cons a l=>
  grind[Lib.join_cons,s9,Lib.joinTail]
def fx:List D->Option (List (List UInt8))
 |[]=>some []
 |.str s::l=>match fx l with
  |some r=>some (s::r)
  |none=>none
 |_::_=>none
theorem TH:∀{l:List D} {a:List (List UInt8)} {vs:List Value},fx l=some a->cw w G vs l->∃xs:List ByteArray,vs=xs.map .string/\xs.map (·.data.toList)=a
 |[],a,vs,h,c=>by
  simp[fx,aCz]at h;subst h;cases c;simp
 |d::l,a,vs,h,c=>by
  cases d<;>simp[fx,reduceCtorEq]at h;split at h
  .rename_i r g;simp at h;subst h;cases c with
   |cons v _ vs _ h1 f=>
    obtain⟨xs,rfl,rfl⟩:=TH g f;cases h1 with
    |str s _ he=>exact⟨s::xs,rfl,by rw[aDe,he]⟩
  .simp at h
theorem Li:∀{l:List D} {a:List (List UInt8)},fx l=some a->l.flatMap D.cells=l/\l.length=a.length
 |[],a,h=>by grind[fx]
 |d::l,a,h=>by
  cases d<;>simp[fx,reduceCtorEq]at h;split at h
  .rename_i r f;simp at h;subst h;obtain⟨h1,c⟩:=Li f;exact⟨by rw[aDO,h1];rfl,by simp[c]⟩
  .simp at h
def Gy(s:aY)(v:ah):Option (List (List UInt8)):=match v with
 |.aP i off len cap 1=>match s.getD i .dead with
  |.box cs=>cond (Nat.ble len cap&&Nat.ble (off+len) cs.length) (match ja ((cs.drop off).take len)with
   |some l=>fx l
   |none=>none) none
  |_=>none
 |.d (.list 1 l)=>fx l
 |.own _ []=>some []
 |_=>none
structure Lj(P:Program)(f:Nat):Prop where
 none:∀(a:Option Addr) (c:Nat) (sep:ByteArray) (w:World),Calls P f #[.slice a 0 c,.string sep] w λe w'=>e=.returned (.string ⟨#[]⟩)/\w'=w
 some:∀(lO o c:Nat) (xs:List ByteArray) (sep:ByteArray) (w:World),(∀(j:Nat) x,xs[j]?=some x->w.cell? ⟨lO,o+j,Option.none⟩=some (.string x))->lO<w.heap.size->xs.length<=140737488355328->xs.length<=c->
  (Lib.join (xs.map (·.data.toList)) sep.data.toList).length<=140737488355328->Calls P f #[.slice (Option.some ⟨lO,o,Option.none⟩) xs.length c,.string sep] w λe w'=>e=.returned (.string ⟨(Lib.join (xs.map (·.data.toList)) sep.data.toList).toArray⟩)/\Below w.heap.size w w'
theorem TI{b off:Nat}{vs:List Value}(h:jc w G b off vs){j:Nat}{v:Value}(a:vs[j]?=some v):w.cell? ⟨b,off+j,none⟩=some v:=(h j v a).1
theorem Gz{f:Nat}{x:ah}{sep:List UInt8}{o:List (List UInt8)}{s:aY}(Z:gq P f)(J:Lj P f)(m:Gy s x=some o)(aq:o.length<=140737488355328)(ar:(s9 sep o).length<=140737488355328):
  bD P gl f [x,.d (.str sep)] s (.d (.str (s9 sep o))) s:=by
 refine wo Z λw G ρ vs cf aF K=> ?_;have u:∀{a:Option Addr} {n c:Nat} {us:List Value} {p:ByteArray} {l:List D},p.data.toList=sep->fx l=some o->cw w G us l->n=l.length->n<=c->(0<n->∃b g,a=some ⟨b,g,none⟩/\∀(j:Nat) v,us[j]?=some v->w.cell? ⟨b,g+j,none⟩=some v)->
   ∃R:Ending->World->Prop,Calls P f ⟨[.slice a n c,.string p]⟩ w R/\∀e w',R e w'->∃v,e=.returned v/\(∀w':World,dp w' G ρ .res v (.d (.str (s9 sep o))))/\Below w.heap.size w w':=by
  intro a n c us p l t C N hZ az L;obtain⟨xs,rfl,jg⟩:=TH C N;have F:=(Li C).2;have p8:xs.length=n:=az9;cases n with
  |zero=>
   refine⟨_,J.none a c p w,?_⟩;rintro e w' ⟨rfl,rfl⟩;have:o=[]:=az9;subst this;exact⟨_,rfl,λ_=>.d _ _ (.str _ _ rfl),Below.refl _ _⟩
  |succ n=>
   obtain⟨b,g,rfl,iT⟩:=L (aFx n);have E:∀(j:Nat) x,xs[j]?=some x->w.cell? ⟨b,g+j,none⟩=some (.string x):=λj x z=>iT j _ az8;have M:=by
    have bB:xs[0]?=some (xs[0]' az6):=aCB _;exact Lh (E 0 _ bB)
   have B:=J.some b g c xs p w E M az6 az6 (by grind[TG]);rw[p8]at B;refine⟨_,B,?_⟩;rintro e w' ⟨rfl,au⟩;refine⟨_,rfl,λ_=>.d _ _ (.str _ _ ?_),au⟩;grind[TG]
 cases K with
 |cons v1 _ nM _ h1 U=>cases U with
  |cons v2 _ nP _ A S=>
   cases S;cases A with
   |d _ _ A=>cases A with
    |str p _ t=>
     unfold Gy at m;split at m
     .rename_i i g len cap;cases h1 with
      |aP _ _ _ _ et _ b cS yb aM=>
       split at m
       .rename_i cs gX;cases r:(Nat.ble len cap&&Nat.ble (g+len) cs.length)with
        |false=>grind
        |true=>
         rw[r]at m;simp at m;rw[aCx]at r;have X:=aCM r.1;have r:=aCM r.2;split at m
         .rename_i l F;have hO:ky w G ρ i b (.box cs):=by grind[gK.at]
          obtain⟨c,ad,fz,hj,eh,vK,Pv,ao⟩:=hO;have bk:(c.toList.drop g).take len=(c.toList.drop g).take len:=rfl;have uf:((c.toList.drop g).take len).length=len:=az9;have kC:cw w G ((c.toList.drop g).take len) l:=by
           refine zF (ρ:=ρ) (LC:=λj=>.dk i (g+j)) (k:=0) (xs:=(cs.drop g).take len) az9 (λj v x K m=> ?_) F;grind
          refine u (us:=(c.toList.drop g).take len) t m kC (by grind[cw.length]) (Nat.le_trans X yb) (λ_=>⟨b,g,rfl,λj v z=> ?_⟩);grind[World.cell?]
         grind
       grind
     .rename_i l;cases h1 with
      |d _ _ h1=>cases h1 with
       |kZ a c _=>exact u t m .nil rfl (aCu _) (λh=>absurd h (aEW 0))
       |list b g n c _ _ us V Q aX Y H=>
        rw[(Li m).1]at H;exact u t m H V Q λ_=>⟨b,g,rfl,λj v z=>TI Y z⟩
     .cases h1 with
      |nil a sz=>exact u (l:=[]) t m .nil rfl (aCu _) (λh=>absurd h (aEW 0))
     grind
def C6:Nat->Nat->List UInt8->List UInt8
 |0,_,acc=>acc
 |f+1,n,acc=>cond (Nat.blt n 10) (UInt8.ofNat (48+n)::acc) (C6 f (n/10) (UInt8.ofNat (48+n%10)::acc))
theorem TL:∀(f n:Nat) (acc:List UInt8),n<10^f->C6 f n acc=cond (Nat.beq f 0) acc (Lib.decDigits n++acc)
 |0,n,acc,_=>rfl
 |f+1,n,acc,h=>by
  simp only[C6];cases au:Nat.blt n 10 with
  |true=>
   have a:n<10:=az8;rw[Lib.decDigits,dif_pos a];rfl
  |false=>
   have a:¬n<10:=λc=>Bool.noConfusion (au.symm.trans (show Nat.blt n 10=true by grind[Nat.blt_eq]));rw[aDy,TL f (n/10) _ az6];conv=>rhs;rw[Lib.decDigits,dif_neg a]
   cases f with
   |zero=>omega
   |succ f=>simp[Nat.beq]
structure Ll(P:Program)(f:Nat):Prop where
 small:∀(i:Nat),i<100->∀w:World,Calls P f #[.int .i64 i] w λe w'=>e=.returned (.string ⟨(Lib.decDigits i).toArray⟩)/\w'=w
theorem amc{f n:Nat}{s:aY}(g:gq P f)(J:Ll P f)(c:n<100):bD P gl f [.d (.int .i64 n)] s (.d (.str (C6 2 n []))) s:=by
 refine wo g λw G ρ o l k j=> ?_;cases j with
 |cons v1 _ m _ h1 a=>
  cases a;cases h1 with
  |d _ _ h1=>
   cases h1;refine⟨_,J.small n c w,?_⟩;rintro e w' ⟨rfl,rfl⟩;refine⟨_,rfl,λ_=>.d _ _ (.str _ _ ?_),Below.refl _ _⟩;grind[TL,Nat.beq]
structure Lm(P:Program)(f:Nat):Prop where
 ok:∀(s:ByteArray),s.size<=9223372036854775806->∀v:Int,Lib.atoiAll s.data.toList=.ok v->∀w:World,Calls P f #[.string s] w λe w'=>e=.returned (.tuple #[.int .i64 v,.nilIface])/\Below w.heap.size w w'
theorem TM{f:Nat}{l:List UInt8}{v:Int}{s:aY}(c:gq P f)(J:Lm P f)(m:l.length<=9223372036854775806)(g:Lib.atoiAll l=.ok v):
  bD P gl f [.d (.str l)] s (.tuple [.d (.int .i64 v),.d .iK]) s:=by
 refine wo c λw G ρ r o n j=> ?_;cases j with
 |cons v1 _ p _ h1 a=>
  cases a;cases h1 with
  |d _ _ h1=>cases h1 with
   |str sp _ k=>
    subst k;refine⟨_,J.ok sp az8 v g w,?_⟩;rintro e w' ⟨rfl,au⟩;exact⟨_,rfl,λ_=>.tuple [.int .i64 v,.nilIface] _ (.cons _ _ _ _ (.d _ _ (.int _ _)) (.cons _ _ _ _ (.d _ _ .iK) .nil)),au⟩
structure AtoiErr(P:Program)(gl:Nat->List D)(f qk mB:Nat):Prop where
 amd:gl qk=[.ix]
 iJ:gl mB=[.ix]
 range:∀(s:ByteArray),s.size<=281474976710656->Lib.atoiAll s.data.toList=.range->∀(aO:Value) (w:World),w.cell? ⟨qk,0,none⟩=some aO->(aO=.nilIface\/∃te yg,aO=.iface te yg)->
  Calls P f #[.string s] w λe w'=>∃t v,e=.returned (.tuple #[.int .i64 (Lib.atoiSat s.data.toList),.iface t v])/\Below w.heap.size w w'
 ame:∀(s:ByteArray),s.size<=281474976710656->Lib.atoiAll s.data.toList=Lib.NumEnd.syntax->∀(aO:Value) (w:World),w.cell? ⟨mB,0,none⟩=some aO->(aO=.nilIface\/∃te yg,aO=.iface te yg)->
  Calls P f #[.string s] w λe w'=>∃t v,e=.returned (.tuple #[.int .i64 0,.iface t v])/\Below w.heap.size w w'
theorem TN{g:Nat}(a:pU gl w G)(h:gl g=[.ix]):∃t v,w.cell? ⟨g,0,none⟩=some (.iface t v):=by
 have:=a.1 g;rw[h]at this;generalize hp:Value.pointer (some ⟨g,0,none⟩)=q at this;cases this with
 |e2 b base off vs cs h1 c=>
  cases c with
  |cons v _ vs _ d f=>
   cases d with
   |ix t v=>
    obtain⟨rfl,hp⟩:=hp;have:=TI h1 (j:=0) rfl;grind
theorem TO{f p n:Nat}{l:List UInt8}{s:aY}(j:gq P f)(J:AtoiErr P gl f p n)(z:l.length<=281474976710656)(k:Lib.atoiAll l=.range):
  bD P gl f [.d (.str l)] s (.tuple [.d (.int .i64 (Lib.atoiSat l)),.d .ix]) s:=by
 refine wo j λw G ρ C A a m=> ?_;cases m with
 |cons v1 _ B _ h1 c=>
  cases c;cases h1 with
  |d _ _ h1=>cases h1 with
   |str sp _ o=>
    subst o;obtain⟨r,u,g⟩:=TN a J.amd;refine⟨_,J.range sp az8 k _ w g (.inr ⟨r,u,rfl⟩),?_⟩;rintro e w' ⟨t,v,rfl,au⟩;exact⟨_,rfl,λ_=>.tuple [.int .i64 (Lib.atoiSat sp.data.toList),.iface t v] _ (.cons _ _ _ _ (.d _ _ (.int _ _)) (.cons _ _ _ _ (.d _ _ (.ix _ _)) .nil)),au⟩
theorem TP{f p n:Nat}{l:List UInt8}{s:aY}(j:gq P f)(J:AtoiErr P gl f p n)(z:l.length<=281474976710656)(k:Lib.atoiAll l=Lib.NumEnd.syntax):
  bD P gl f [.d (.str l)] s (.tuple [.d (.int .i64 0),.d .ix]) s:=by
 refine wo j λw G ρ C A a m=> ?_;cases m with
 |cons v1 _ B _ h1 c=>
  cases c;cases h1 with
  |d _ _ h1=>cases h1 with
   |str sp _ o=>
    subst o;obtain⟨r,u,g⟩:=TN a J.iJ;refine⟨_,J.ame sp az8 k _ w g (.inr ⟨r,u,rfl⟩),?_⟩;rintro e w' ⟨t,v,rfl,au⟩;exact⟨_,rfl,λ_=>.tuple [.int .i64 0,.iface t v] _ (.cons _ _ _ _ (.d _ _ (.int _ _)) (.cons _ _ _ _ (.d _ _ (.ix _ _)) .nil)),au⟩
def Ln(P:Program)(t e f:Nat):Prop:=∀(b:Nat) (p v:Value) (a:List Value) (s:ByteArray) (w:World),qj t e b p v a w->a.length+s.size<=140737488355328->
 Calls P f #[.pointer (some ⟨b,0,none⟩),.string s] w λx w'=>x=.returned (.tuple #[.int .i64 s.size,.nilIface])/\C5 b v w w'/\
  ∃c,qj t e b (.pointer (some ⟨b,0,none⟩)) c (a++Lib.strCells s) w'/\(∀g,c.ownBlock=some g->v.ownBlock=some g\/w.heap.size<=g)/\La v e w w'
def Lo(P:Program)(t e f:Nat):Prop:=∀(b:Nat) (p v:Value) (l:List UInt8) (w:World),qj t e b p v (Lib.byteCells l) w->
 Calls P f #[.pointer (some ⟨b,0,none⟩)] w λx w'=>x=.returned (.string ⟨l.toArray⟩)/\Lc v l.length w w'
theorem TQ{i b t e:Nat}{a:List UInt8}(h:ky w G ρ i b (.h' t e a)):∃p v,qj t e b p v (Lib.byteCells a) w/\G b=some (.obj i,0)/\∀g,v.ownBlock=some g->G g=some (.dk i 1,0)/\∃c fz,w.heap[g]?=some (.cells c e fz):=by
 obtain⟨p,v,h1,d,f,l⟩:=h;have n:=aF' a;rcases l with⟨rfl,rfl⟩|⟨g,cap,c,fz,rfl,a2,a3,a4,a5,j,o,m⟩
 .exact⟨p,_,⟨h1,f,⟨rfl,.inl ⟨rfl,rfl⟩⟩,by simp[Value.ownBlock]⟩,d,λg r=>by grind[Value.ownBlock]⟩
 .refine⟨p,_,⟨h1,f,⟨az6,.inr ⟨g,cap,c,fz,az9,aCu _,a2,az6,az6,j,az6,?_⟩⟩,?_⟩,d,λk s=> ?_⟩
  .rw[n,aEL,m];rfl
  all_goals grind[Value.ownBlock]
theorem TR{i b t e:Nat}{p v:Value}{a:List UInt8}(h:qj t e b p v (Lib.byteCells a) w)(h1:G b=some (.obj i,0))(f:∀g,v.ownBlock=some g->G g=some (.dk i 1,0)):ky w G ρ i b (.h' t e a):=by
 obtain⟨g1,g2,g3,g4⟩:=h;have k:=aF' a;refine⟨p,v,g1,h1,g2,?_⟩;rcases g3.2 with⟨rfl,bB⟩|⟨g,cap,c,j,rfl,_,a2,a3,a4,a5,l,d⟩
 .grind
 .refine .inr ⟨g,cap,c,j,az9,a2,f g rfl,az6,az6,a5,az6,?_⟩;rw[k,aEL]at d;exact d
theorem GD{i b:Nat}{v:Value}{G':bL}{s s':aY}{o':cc}(A:gK w G ρ s)(S:∀b L n,G b=some (L,n)->b<w.heap.size)(hi:ρ[i]?=some (b+1))(B:s'=s.set i o')(au:G b=some (.obj i,0))
  (F:∀g,v.ownBlock=some g->G g=some (.dk i 1,0)) (d:C5 b v w w') (dh:∀k,G' k=G k\/(w.heap.size<=k/\k<w'.heap.size/\G' k=some (.dk i 1,0)))
  (X:∀k n,(k=b\/v.ownBlock=some k)->tP w k n->tP w' k n) (U:ky w' G' ρ i b o'):
  gK w' G' ρ s'/\(∀b L n,G' b=some (L,n)->b<w'.heap.size)/\Good w G w' G':=by
 have C:=λk d=>(dh k).resolve_right λh=>absurd h.1 (Nat.not_le.2 d);have t:∀k,k<w.heap.size->(∀n,G k≠some (.obj i,n))->(∀n,G k≠some (.dk i 1,n))->w'.heap[k]?=w.heap[k]?:=λk a h1 f=>
  d.block k a (λe=>h1 0 az8) (λe=>f 0 (F k e))
 have r:de w G w' G':=by
  refine⟨λk V u l=> ?_,λk o P=> ?_,λk n Q=> ?_⟩
  .have a:=Lh l.1;have z:∀L,G k≠some (L,0):=λL h=>absurd (l.2.1 L 0 h) (aDs _);refine⟨?_,?_,l.2.2⟩
   .rw[aE9 (d.block k a (λe=>z _ (by rw[e];exact au)) (λe=>z _ (F k e)))];exact l.1
   .intro L n h;rw[C k a]at h;exact l.2.1 L n h
  .obtain⟨h1,p,f⟩:=P;have a:k<w.heap.size:=(aC'.1 f).1;exact⟨az8,p,(t k a (λn h=>az8) (λn h=>az8)).trans f⟩
  .by_cases H:k=b\/v.ownBlock=some k
   .simp_all
   .obtain⟨c,E,N,f,p⟩:=Q;exact⟨c,E,N,(d.block k (aC'.1 f).1 (λe=>H (.inl e)) (λe=>H (.inr e))).trans f,p⟩
 refine⟨⟨by rw[B,aDE];exact A.1,λj c o K J=> ?_⟩,λk L n h=> ?_,?_⟩
 .by_cases R:j=i
  .grind
  .rw[B,aDb (λe=>R e.symm)]at J;refine(A.2 j c o K J).b0 r (λ_ _ h=>h) (λk n h=> ?_) (λm k n h=> ?_)
   .grind
   grind
 .grind[Nat.lt_of_lt_of_le,C5.size]
 .refine⟨d.size,λk a h=>⟨t k a (λn M=> ?_) (λn M=> ?_),C k a⟩,λk n a h=> ?_,λk n a h=>az8,r,d.os,d.out⟩;all_goals grind
theorem TT{f i t e:Nat}{a x:List UInt8}{s:aY}(S:gq P f)(W:Ln P t e f)(hs:s[i]?=some (.h' t e a))(ao:a.length+x.length<=140737488355328):
  bD P gl f [.ptr i 0,.d (.str x)] s (.tuple [.d (.int .i64 x.length),.d .iK]) (s.set i (.h' t e (a++x))):=by
 refine⟨S,λw G ρ vs z aF Q hv=> ?_⟩;cases hv with
 |cons v1 _ nM _ h1 M=>cases M with
  |cons v2 _ nP _ n L=>
   cases L;cases h1 with
   |ptr _ _ b hi=>cases n with
    |d _ _ n=>cases n with
     |str sp _ nk=>
      subst nk;obtain⟨p,ad,B,au,u⟩:=TQ (z.2 i b _ hi hs);have V:sp.size=sp.data.toList.length:=rfl;refine(W b p ad _ sp w B (by grind[Lib.byteCells_length])).mono ?_;rintro x w' ⟨rfl,hk,F,l,jF,J⟩;have K:Lib.byteCells a++Lib.strCells sp=Lib.byteCells (a++sp.data.toList):=by simp[Lib.byteCells,Lib.strCells]
      rw[K]at l;have ai:∀g,F.ownBlock=some g->g<w'.heap.size:=by
       intro g C;rcases l.2.2.1.2 with⟨rfl,_⟩|⟨g2,cap,c,r,rfl,_,a2,_⟩
       .grind[Value.ownBlock]
       .simp[Value.ownBlock,aCz]at C;grind
      let G':bL:=λk=>if F.ownBlock=some k then some (.dk i 1,0)else G k
      have H:∀k,G' k=G k\/(w.heap.size<=k/\k<w'.heap.size/\G' k=some (.dk i 1,0)):=az9;have N:G' b=some (.obj i,0):=az9;obtain⟨R,X,Z⟩:=GD (s':=s.set i (.h' t e (a++sp.data.toList))) (G':=G') z Q hi rfl au (λg h=>(u g h).1) hk H (λk ar m A=>by
       rcases m with rfl|m
       .obtain⟨c,E,r,j,v⟩:=A;rw[B.1]at j;simp at j;obtain⟨rfl,_,_⟩:=j;exact⟨_,_,_,l.1,v⟩
       .obtain⟨c,E,r,j,v⟩:=A;obtain⟨_,c2,pY,o⟩:=u k m;rw[j]at o;simp at o;obtain⟨rfl,rfl,rfl⟩:=o;obtain⟨U,p0,Y,gE⟩:=J k c r m j;exact⟨U,_,p0,Y,az6⟩) (TR l N (λg C=>az9))
      refine⟨_,G',ρ,rfl,?_,R,X,Z,λ_ _ h=>h⟩;exact .tuple [.int .i64 sp.size,.nilIface] _ (.cons _ _ _ _ (.d _ _ (by rw[V];exact .int _ _)) (.cons _ _ _ _ (.d _ _ .iK) .nil))
theorem TU{f i t e:Nat}{d:List UInt8}{s:aY}(bh:gq P f)(W:Lo P t e f)(hs:s[i]?=some (.h' t e d)):bD P gl f [.ptr i 0] s (.d (.str d)) s:=by
 refine⟨bh,λw G ρ vs U aF ay hv=> ?_⟩;cases hv with
 |cons v1 _ nM _ h1 af=>
  cases af;cases h1 with
  |ptr _ _ b hi=>
   obtain⟨p,v,B,au,Q⟩:=TQ (U.2 i b _ hi hs);refine(W b p v d w B).mono ?_;rintro x w' ⟨rfl,bK⟩;have jh:s.set i (.h' t e d)=s:=by
    apply aEm;grind
   have cj:∀{n:Nat},w'.heap.size=w.heap.size\/True:=λ{_}=>.inr trivial;have M:C5 b v w w'->qj t e b p v (Lib.byteCells d) w'->(∀k n,(k=b\/v.ownBlock=some k)->tP w k n->tP w' k n)->∃V G' N,Ending.returned (Value.string ⟨d.toArray⟩)=.returned V/\dp w' G' N .res V (.d (.str d))/\gK w' G' N s/\(∀b L n,G' b=some (L,n)->b<w'.heap.size)/\Good w G w' G'/\(∀i b:Nat,ρ[i]?=some b->N[i]?=some b):=by
    intro l X z;obtain⟨b7,cq,dG⟩:=GD (s':=s) (G':=G) U ay hi jh.symm au (λg h=>(Q g h).1) l (λ_=>.inl rfl) z (TR X au (λg h=>(Q g h).1));exact⟨_,G,ρ,rfl,.d _ _ (.str _ _ rfl),b7,cq,dG,λ_ _ h=>h⟩
   rcases bK with rfl|⟨a,ty,rfl⟩|⟨g,c,rfl,aq,rfl⟩
   .exact M ⟨rfl,rfl,aCw _,λ_ _ _ _=>rfl⟩ B (λ_ _ _ h=>h)
   .have K:∀k,k<w.heap.size->(w.drew.alloc (.view a ty)).heap[k]?=w.heap[k]?:=λk l=>Lib.alloc_old w.drew _ k l;refine M ⟨rfl,rfl,az7,λk l _ _=>K k l⟩ ?_ (λk n _ z=> ?_)
    .obtain⟨F,J,u,A⟩:=B;refine⟨(K b (aC'.1 F).1).trans F,J,⟨u.1,?_⟩,A⟩;rcases u.2 with h|⟨g,cap,r,j,m,o,Z,bR⟩
     all_goals grind
    .obtain⟨c,E,j,m,o⟩:=z;exact⟨c,E,j,(K k (aC'.1 m).1).trans m,o⟩
   .obtain⟨F,J,u,A⟩:=B;have Y:g≠b:=λe=>A (by rw[e];rfl);have H:∀k,k≠g->(w.drew.freeze ⟨g,0,none⟩ d.length).heap[k]?=w.heap[k]?:=by
     intro k l;unfold World.freeze;rw[aCV aq];simp[aEl];rw[aCV (λe=>l e.symm)];rfl
    have ad:∀r E j,w.heap[g]?=some (.cells r E j)->∃C,(w.drew.freeze ⟨g,0,none⟩ d.length).heap[g]?=some (.cells r E C)/\C.2<=max j.2 d.length:=by
     intro r E j h;have dM:w.drew.heap[g]?=some (.cells r E j):=h;obtain⟨lo,hY⟩:=j;unfold World.freeze;grind
    have xF:(w.drew.freeze ⟨g,0,none⟩ d.length).heap.size=w.heap.size:=by
     unfold World.freeze;rw[aCV aq];simp
    refine M ⟨by unfold World.freeze;rw[aCV aq];rfl,by unfold World.freeze;rw[aCV aq];rfl,az6,λk l ao ai=>H k (λe=>ai (by rw[e];rfl))⟩ ?_ (λk n kB z=> ?_)
    .refine⟨(H b (λe=>Y e.symm)).trans F,J,⟨u.1,?_⟩,A⟩;rcases u.2 with⟨h,_⟩|⟨g2,cap,r,j,m,o,Z,bR,cF⟩
     all_goals grind
    .obtain⟨S,E,j,m,o⟩:=z;by_cases R:k=g
     .subst R;obtain⟨C,f1,f2⟩:=ad _ _ _ m;exact⟨S,E,C,f1,o⟩
     .exact⟨S,E,j,(H k R).trans m,o⟩
end
def AK:Nat:=140737488355328
def Lr(t e:Nat)(args:List ah)(s:aY):Out:=match args with
 |[.ptr i 0,.d (.str x)]=>match s[i]? with
  |some (.h' a e' bs)=>cond (Nat.beq a t&&Nat.beq e' e&&Nat.ble (bs.length+x.length) AK) (some (.tuple [.d (.int .i64 x.length),.d .iK],s.set i (.h' a e' (bs++x)))) none
  |_=>none
 |_=>none
def Ls(t e:Nat)(args:List ah)(s:aY):Out:=match args with
 |[.ptr i 0]=>match s[i]? with
  |some (.h' a e' bs)=>cond (Nat.beq a t&&Nat.beq e' e) (some (.d (.str bs),s)) none
  |_=>none
 |_=>none
def Lt(args:List ah)(s:aY):Out:=match args with
 |[l,.d (.str sep)]=>match Gy s l with
  |some ss=>cond (Nat.ble ss.length AK&&Nat.ble (s9 sep ss).length AK) (some (.d (.str (s9 sep ss)),s)) none
  |none=>none
 |_=>none
def Lu(args:List ah)(s:aY):Out:=match args with
 |[.d (.int .i64 (.ofNat n))]=>cond (Nat.blt n 100) (some (.d (.str (C6 2 n [])),s)) none
 |_=>none
def Lv(args:List ah)(s:aY):Out:=match args with
 |[.d (.str x)]=>cond (Nat.ble x.length 281474976710656) (match Lib.atoiAll x with
  |.ok v=>some (.tuple [.d (.int .i64 v),.d .iK],s)
  |.range=>some (.tuple [.d (.int .i64 (Lib.atoiSat x)),.d .ix],s)
  |Lib.NumEnd.syntax=>some (.tuple [.d (.int .i64 0),.d .ix],s)) none
 |_=>none
def Lw(t e j d k c g:Nat):Nat->List ah->aY->Out:=λf a s=>
 cond (Nat.beq f j) (Lr t e a s) (cond (Nat.beq f d) (Ls t e a s) (cond (Nat.beq f k) (Lt a s) (cond (Nat.beq f c) (Lu a s) (cond (Nat.beq f g) (Lv a s) none))))
structure yh(P:Program)(gl:Nat->List D)(t e oe fs wq fi gJ qk mB:Nat):Prop where
 pg:gq P oe
 cs:gq P fs
 C8:gq P wq
 ci:gq P fi
 ca:gq P gJ
 w:Ln P t e oe
 s:Lo P t e fs
 j:Lj P wq
 i:Ll P fi
 a:Lm P gJ
 GF:AtoiErr P gl gJ qk mB
theorem amj{P:Program}{gl:Nat->List D}{t e f:Nat}{args:List ah}{s:aY}{r:ah}{s':aY}(c:gq P f)(W:Ln P t e f)(h:Lr t e args s=some (r,s')):bD P gl f args s r s':=by
 unfold Lr at h;split at h
 .rename_i i x;split at h
  .rename_i d e' bs hs;cases a:(Nat.beq d t&&Nat.beq e' e&&Nat.ble (bs.length+x.length) AK)with
   |false=>simp_all
   |true=>
    rw[a]at h;simp only[aCx]at a;obtain⟨rfl,rfl⟩:=h;obtain rfl:=aCG a.1.1;obtain rfl:=aCG a.1.2;exact TT c W hs (aCM a.2)
  simp_all
 simp_all
theorem amk{P:Program}{gl:Nat->List D}{t e f:Nat}{args:List ah}{s:aY}{r:ah}{s':aY}(d:gq P f)(W:Lo P t e f)(h:Ls t e args s=some (r,s')):bD P gl f args s r s':=by
 unfold Ls at h;split at h
 .rename_i i;split at h
  .rename_i c e' bs hs;cases a:(Nat.beq c t&&Nat.beq e' e)with
   |false=>simp_all
   |true=>
    rw[a]at h;simp only[aCx]at a;obtain⟨rfl,rfl⟩:=h;obtain rfl:=aCG a.1;obtain rfl:=aCG a.2;grind[TU]
  simp_all
 simp_all
theorem aml{P:Program}{gl:Nat->List D}{f:Nat}{args:List ah}{s:aY}{r:ah}{s':aY}(c:gq P f)(W:Lj P f)(h:Lt args s=some (r,s')):bD P gl f args s r s':=by
 unfold Lt at h;split at h
 .rename_i l sep;split at h
  .rename_i ss hs;cases a:(Nat.ble ss.length AK&&Nat.ble (s9 sep ss).length AK)with
   |false=>simp_all
   |true=>
    rw[a]at h;simp only[aCx]at a;obtain⟨rfl,rfl⟩:=h;exact Gz c W hs (aCM a.1) (aCM a.2)
  simp_all
 simp_all
theorem amm{P:Program}{gl:Nat->List D}{f:Nat}{args:List ah}{s:aY}{r:ah}{s':aY}(c:gq P f)(W:Ll P f)(h:Lu args s=some (r,s')):bD P gl f args s r s':=by
 unfold Lu at h;split at h
 .rename_i n;cases a:Nat.blt n 100 with
  |false=>simp_all
  |true=>
   rw[a]at h;grind[amc,Nat.blt_eq]
 simp_all
theorem amn{P:Program}{gl:Nat->List D}{f d c:Nat}{args:List ah}{s:aY}{r:ah}{s':aY}(g:gq P f)(W:Lm P f)(E:AtoiErr P gl f d c)(h:Lv args s=some (r,s')):bD P gl f args s r s':=by
 unfold Lv at h;split at h
 .rename_i x;cases a:Nat.ble x.length 281474976710656 with
  |false=>simp_all
  |true=>
   rw[a]at h;have a:=aCM a;grind[TM,TO,TP]
 simp_all
theorem amo{P:Program}{gl:Nat->List D}{t e j d k c g p o:Nat}(X:yh P gl t e j d k c g p o):hP P gl (Lw t e j d k c g):=by
 intro f u s r v h;unfold Lw at h;cases h1:Nat.beq f j with
 |true=>rw[h1]at h;rw[aCG h1];exact amj X.pg X.w h
 |false=>
  rw[h1]at h;cases a:Nat.beq f d with
  |true=>rw[a]at h;rw[aCG a];exact amk X.cs X.s h
  |false=>
   rw[a]at h;cases n:Nat.beq f k with
   |true=>grind[Nat.eq_of_beq_eq_true,aml,yh.C8,yh.j]
   |false=>
    rw[n]at h;cases m:Nat.beq f c with
    |true=>grind[Nat.eq_of_beq_eq_true,amm,yh.ci,yh.i]
    |false=>
     rw[m]at h;cases l:Nat.beq f g with
     |true=>rw[l]at h;rw[aCG l];exact amn X.ca X.a X.GF h
     |false=>simp_all
end Go.aG
