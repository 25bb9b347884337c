/- Part of texts_said. -/
import Derived.Test.YtmgpekpnidjfoaaGreatDoorM2
import Derived.Deep.LoopGhost
set_option linter.defProp false
set_option maxRecDepth 100000
set_option maxHeartbeats 8000000
set_option linter.unusedSimpArgs false
set_option linter.unusedVariables false
namespace Go.aJ
variable {p:Prop}
def aAK:=@List.getElem?_map
theorem axw(h:p:=by decide):p:=h
theorem ayd(h:p:=by grind[getObj,Sem.run]):p:=h
section
variable {P:Program}{gl:Nat->List D}{n0 nt:Nat}{a:Act}{w w':World}{G G':bJ}{ρ ρ':List Nat}{lam lam':Nat->Option Nat}{st aU:af}{K:af->Prop}{o:Oper}{Q:Exit->Act->World->Prop}
theorem aeY{d t:Nat}(p:bV n0 gl nt w G ρ lam a st)(aY:o.dst=some d)(bp:d<nt)(bu:o.op=.makeMap t none)
  (hs:step (bz P gl) gl (.mm d) st K):o.wp P a w (cy n0 gl nt w G ρ K) Q:=by
 have aw:(execOp a.eval o).run P w=.ok (.value (.map (some w.heap.size))) {w with heap:=w.heap.push (.map #[] 0)}:=by
  simp_all[execOp,Instr.makeMap]
 have hw:ga w (.map #[] 0) {w with heap:=w.heap.push (.map #[] 0)}:=⟨rfl,rfl,rfl⟩;refine fP aw (jT p.eC (put_defers _ _ _) axB _ (ρ++[w.heap.size+1]) lam _ ?_ (hw.good p.rel.lt (L0:=.obj st.s.length) (n0:=0) axt) hE hs);rw[aY];have rz:(ρ++[w.heap.size+1])[st.s.length]?=some (w.heap.size+1):=axS;refine p.rel.uB hw (az' bp p.sz) ⟨#[],0,hw.new,axO,rfl,axt⟩ (.map _ _ rz)
theorem aeZ{t:Nat}{x:ag}(h:zeroV P t=some x):∃v,(∀w:World,(zeroValue t).run P w=.ok v w)/\∀{w:World} {G:bJ} {ρ:List Nat},dc w G ρ v x:=by
 unfold zeroV at h;split at h
 .rename_i zs ah v _ _ hv;cases hi:P.info? t with
  |none=>simp_all
  |some i=>
   rw[hi]at hv;split at h;all_goals simp_all[rr,Hg]
 simp_all
theorem Oe{ks:List Nat}{x:D}(h:(cF ks x.cells x.cells).isSome=true):x.cells.length=ks.length:=by
 obtain⟨r,aw⟩:=Option.isSome_iff_exists.1 h;exact(DA aw).1
theorem Og{e5:Nat}{ks:List Nat}{ah:Bool}{u:Value}{k:D}(dK:hd P e5=ah)(hu:Rd w G u k)(br:ft ah k=true)(aH:k.cells.length=ks.length):∃vs,vs.length=ks.length/\shaped P e5 vs u:=by
 obtain⟨vs,h1,h2,_⟩:=hu.cells br;exact⟨vs,by rw[h1.length,aH],by grind[shaped]⟩
theorem de.atL{v:Value}{x:D}{L:Loc}(h:de w G ρ lam L v (.d x)):dc w G ρ v (.d x):=.d _ _ h.iq
theorem ae0{d t e5 lI t1:Nat}{ah ok:Bool}{ks:List Nat}{x k:Operand}{bx k':O}{z:ag}(p:bV n0 gl nt w G ρ lam a st)(aY:o.dst=some d)(bp:d<nt)(bu:o.op=.lookup t x k ok)(ak:bP P t1 x=some bx)(au:bP P e5 k=some k')
  (hu:P.underlying t=some (.map e5 lI)) (aQ:zeroV P lI=some z) (jU:kinds P 10 e5=some ks) (dK:hd P e5=ah)
  (hs:step (bz P gl) gl (.aI d ah ks bx k' z ok) st K):o.wp P a w (cy n0 gl nt w G ρ K) Q:=by
 obtain⟨e6,h1⟩:=dC ak p.rel;obtain⟨iX,h2⟩:=dC au p.rel;obtain⟨ec,ae1,ae2⟩:=aeZ aQ;simp[step]at hs;split at hs
 .exact hs.elim
 .rename_i hk kp;obtain⟨aE,hs⟩:=hs;simp at aE;have rI:=h2.hl kp;obtain⟨vs,om,wA⟩:=Og (P:=P) dK rI aE.1 (Oe aE.2);have yx:∀em,(Instr.checkKey em 10000 e5 (a.eval k)).run P w=.ok () w:=λem=>HQ em 10 10000 e5 ks vs _ jU axw om wA;have yy:∀(es:Array MapEntry),((a.eval x=.map none/\es= #[])\/∃r clock,a.eval x=.map (some r)/\w.heap[r]?=some (.map es clock))->(Instr.findKey e5 (a.eval k) es.toList).run P w=.ok none w->
    K (st.set d (cond ok (.tuple [cE z,.d (.bool false)]) (cE z)))->o.wp P a w (cy n0 gl nt w G ρ K) Q:=by
   intro es yz bm ao;refine p.value aY bp (v:=if ok then .tuple #[ec,.bool false]else ec) ?_ (.ck ?_) ao
   .rcases yz with⟨hm,rfl⟩|⟨r,clock,hm,cq⟩
    .simp_all[execOp,Instr.lookup,eB]
    .have jW:(getObj r).run P w=.ok (.map es clock) w:=by grind[getObj,Sem.run]
     simp[execOp,bu,Instr.lookup,azP,eB hu,azS,hm,jW,azU,yx,bm,ae1]
   .have hA:=(ae2 (w:=w) (G:=G) (ρ:=ρ)).cE;cases ok with
    |true=>exact .tuple [ec,.bool false] _ (.cons _ _ _ _ hA (.cons _ _ _ _ (.d _ _ (.bool false)) .nil))
    |false=>grind
  split at hs
  .rename_i aj;rw[aj]at h1;have cc:=h1.iq;cases b8:a.eval x<;>rw[b8]at cc<;>cases cc;exact yy #[] (.inl ⟨b8,rfl⟩) (by
    have:=yw (P:=P) (ρ:=ρ) jU dK rI aE.1 (mes:=[]) (es:=[]) (r:=none) .nil rfl;exact this) hs
  .rename_i kl vl aj;rw[aj]at h1;have cc:=h1.iq;generalize b8:a.eval x=v1 at cc;cases cc with
   |k6 b sG sH kw ae3 _ _ hm au hv A3=>
    obtain⟨mes,clock,⟨_,_,m1⟩,rfl,rfl⟩:=hm;have A4:=au.length;have jh:=hv.length;obtain⟨A5,dW⟩:=A3 ah ks hk;have wB:yv w G ρ mes.toList (x9 kw ae3):=by
     refine HR axu λj e pp he hp=> ?_;rw[aAK,aAt]at hp;obtain⟨q,aT,rfl⟩:=hp;obtain⟨HS,sZ⟩:=List.getElem?_zip_eq_some.1 aT;have D5:mes.toList[j]?=some e:=axu;exact⟨au.get axu HS,.d _ _ (hv.get axu sZ)⟩
    split at hs
    .rename_i bm;have:=yw (P:=P) jU dK rI aE.1 wB (A5 bm);exact yy mes (.inr ⟨b,clock,b8,m1⟩) this hs
    .rename_i j bm;split at hs
     .rename_i ae4 HT;obtain⟨j,bm,he⟩:=dW _ _ bm HT;have rJ:=yw (P:=P) jU dK rI aE.1 wB bm;have gB:j<mes.size:=axv;have wC:foundAt mes.toList 0 (some j)=some (j,mes[j].val):=by grind[foundAt]
      rw[wC]at rJ;have jW:(getObj b).run P w=.ok (.map mes clock) w:=ayd;refine p.value aY bp (v:=if ok then .tuple #[mes[j].val,.bool true]else mes[j].val) ?_ (.ck ?_) hs
      .simp[execOp,bu,Instr.lookup,azP,eB hu,azS,b8,jW,azU,yx,rJ]
      .have hA:dc w G ρ mes[j].val (.d ae4):=.d _ _ (hv.get axv he);cases ok with
       |true=>exact .tuple [_,.bool true] _ (.cons _ _ _ _ hA (.cons _ _ _ _ (.d _ _ (.bool true)) .nil))
       |false=>grind
     .exact hs.elim
    .exact hs.elim
  .rename_i i aj;rw[aj]at h1;have cc:dc w G ρ (a.eval x) (.map i):=h1;cases b8:a.eval x<;>rw[b8]at cc<;>cases cc;rename_i b aq;split at hs
   .rename_i es aD;have HU:kj w G ρ i b (.map es):=ayX;obtain⟨mes,clock,m1,m2,m3,m4⟩:=HU;have wB:=HR m3 m4;split at hs
    .rename_i bm;have:=yw (P:=P) jU dK rI aE.1 wB bm;exact yy mes (.inr ⟨b,clock,b8,m1⟩) this hs
    .rename_i j bm;split at hs
     .rename_i e he;have rJ:=yw (P:=P) jU dK rI aE.1 wB bm;have gB:j<mes.size:=axv;have yA:mes[j]?=some mes[j]:=axt;have wC:foundAt mes.toList 0 (some j)=some (j,mes[j].val):=by grind[foundAt]
      rw[wC]at rJ;have jW:(getObj b).run P w=.ok (.map mes clock) w:=ayd;refine p.value aY bp (v:=if ok then .tuple #[mes[j].val,.bool true]else mes[j].val) ?_ (.ck ?_) hs
      .simp[execOp,bu,Instr.lookup,azP,eB hu,azS,b8,jW,azU,yx,rJ]
      .have hA:=(m4 j _ _ yA he).2;cases ok with
       |true=>exact .tuple [_,.bool true] _ (.cons _ _ _ _ hA (.cons _ _ _ _ (.d _ _ (.bool true)) .nil))
       |false=>grind
     .exact hs.elim
    .exact hs.elim
   .exact hs.elim
  .exact hs.elim
theorem HV(n:Nat):∀{ks:List Nat} {xs ys:List D} {us vs:List Value},cF ks xs ys=some true->cn w G us xs->cn w G vs ys->us.length=vs.length/\(us.zip vs).all (λp=>Instr.sameBits n p.1 p.2)=true
 |[],[],[],us,vs,_,h1,h2=>by cases h1;cases h2;simp
 |[],[],_::_,_,_,h,_,_=>axN
 |[],_::_,_,_,_,h,_,_=>axN
 |_::_,[],_,_,_,h,_,_=>axN
 |_::_,_::_,[],_,_,h,_,_=>axN
 |k::ks,x::xs,y::ys,us,vs,h,h1,h2=>by
  cases h1 with
  |cons u _ us _ hu lf=>
   cases h2 with
   |cons v _ vs _ hv jf=>
    have key:cF ks xs ys=some true/\Instr.sameBits n u v=true:=by
     unfold cF at h;split at h
     .rename_i p q;cases he:cF ks xs ys<;>simp[he]at h;cases hu;cases hv;grind[Instr.sameBits]
     .rename_i i p j q;cases a6:decide (i=j)with
      |false=>simp_all
      |true=>
       cases he:cF ks xs ys<;>simp[a6,he]at h;cases hu;cases hv;grind[Instr.sameBits]
     .rename_i p q;cases he:cF ks xs ys<;>simp[he]at h;obtain⟨rfl,rfl⟩:=h;cases hu with|str s1 _ q1=>cases hv with|str s2 _ bK=>
       refine⟨rfl,?_⟩;have:s1=s2:=by
        have av:=q1.trans bK.symm;obtain⟨⟨a⟩⟩:=s1;obtain⟨⟨b⟩⟩:=s2;simp_all
       grind[beq_toListBytes,Instr.sameBits]
     simp_all
    obtain⟨l1,l2⟩:=HV n key.1 lf jf;simp_all
theorem ae5{ah:Bool}{ks:List Nat}{u v:Value}{x y:D}(ak:Rd w G u x)(hy:Rd w G v y)(bh:ft ah x=true)(a2:ft ah y=true)(he:cF ks x.cells y.cells=some true):Instr.sameBits 10000 v u=true:=by
 obtain⟨us,h1,h2,_⟩:=ak.cells bh;obtain⟨vs,av,aZ,_⟩:=hy.cells a2;have Oh:∀{ks:List Nat} {xs ys:List D},cF ks xs ys=some true->cF ks ys xs=some true:=by
  intro ks;induction ks with
  |nil=>grind[cF]
  |cons k ks ih=>
   intro xs ys h;cases xs with
   |nil=>grind[cF]
   |cons x xs=>
    cases ys with
    |nil=>grind[cF]
    |cons y ys=>
     unfold cF at h;split at h
     .simp_all[cF]
     .rename_i i p j q;cases a6:decide (i=j)with
      |false=>simp_all
      |true=>
       simp_all[cF]
     .simp_all[cF]
     simp_all
 cases ah with
 |true=>
  obtain⟨l1,l2⟩:=HV 9999 (Oh he) av h1;grind[Instr.sameBits]
 |false=>
  obtain⟨_,l2⟩:=HV 10000 (Oh he) av h1;simp_all
def aBo:=@Option.getD_some
theorem ae6{b i:Nat}{mes:Array MapEntry}{clock:Nat}{ob:Obj}(dB:G b=some (.obj i,0))(h:w.heap[b]?=some (.map mes clock))(aB:∀b L n,G b=some (L,n)->b<w.heap.size):
  let w1:World:={w with heap:=w.heap.setIfInBounds b ob};w1.heap[b]?=some ob/\da w G w1 G/\(∀L,L≠.obj i->eV L L w G w1 G)/\Good w G w1 G/\∀b L n,G b=some (L,n)->b<w1.heap.size:=by
 have aq:=aB _ _ _ dB;have wi:∀cg,cg≠b->(w.heap.setIfInBounds b ob)[cg]?=w.heap[cg]?:=λcg cB=>axv;have au:da w G {w with heap:=w.heap.setIfInBounds b ob} G:=by
  refine⟨?_,?_,?_⟩;rotate_left
  .intro cg o ay;obtain⟨h1,av,h2⟩:=ay;have cB:cg≠b:=axv;exact⟨h1,av,(wi _ cB).trans h2⟩
  .intro cg n ay;obtain⟨c,E,fz,h2,av⟩:=ay;have cB:cg≠b:=axv;exact⟨c,E,fz,(wi _ cB).trans h2,av⟩
  intro cg off v ay;have cB:cg≠b:=by
   rintro rfl;have:=ay.1;grind[World.cell?]
  exact⟨by rw[yj (w:=w) (w':={w with heap:=w.heap.setIfInBounds b ob}) (wi _ cB)];exact ay.1,ay.2⟩
 refine⟨?_,au,?_,⟨?_,?_,?_,λ_ _ _ h=>h,au,rfl,rfl⟩,?_⟩
 .grind
 .intro L bF cg n eW;grind
 all_goals grind
theorem ae7{t e5 lI t1 t2:Nat}{ah:Bool}{ks:List Nat}{x k v:Operand}{bx k' v':O}(p:bV n0 gl nt w G ρ lam a st)(aY:o.dst=none)(bu:o.op=.mapUpdate t x k v)(ak:bP P t1 x=some bx)(au:bP P e5 k=some k')(hv:bP P t2 v=some v')
  (hu:P.underlying t=some (.map e5 lI)) (jU:kinds P 10 e5=some ks) (dK:hd P e5=ah)
  (hs:step (bz P gl) gl (.n7 ah ks bx k' v') st K):o.wp P a w (cy n0 gl nt w G ρ K) Q:=by
 obtain⟨e6,h1⟩:=dC ak p.rel;obtain⟨iX,h2⟩:=dC au p.rel;obtain⟨atM,av⟩:=dC hv p.rel;simp[step]at hs;split at hs
 .rename_i i hk aj kp;rw[aj]at h1;have cc:=h1;cases b8:a.eval x<;>rw[b8]at cc<;>cases cc;rename_i b aq;split at hs
  .rename_i es aD;split at hs
   .rename_i j bm;obtain⟨aE,hs⟩:=hs;simp at aE;obtain⟨⟨qf,iw⟩,ae8⟩:=aE;have rI:=h2.hl kp;obtain⟨vs,om,wA⟩:=Og (P:=P) dK rI iw (Oe ae8);have yx:∀em,(Instr.checkKey em 10000 e5 (a.eval k)).run P w=.ok () w:=λem=>HQ em 10 10000 e5 ks vs _ jU axw om wA;have atN:dc w G ρ (a.eval v) (cE (aK gl st v')):=by
     have:=(av.cE (L':=.res)).He qf;grind[Hc,Hd,dr.cases]
    have HU:kj w G ρ i b (.map es):=ayX;obtain⟨mes,clock,m1,m2,m3,m4⟩:=HU;have wB:=HR m3 m4;have rJ:=yw (P:=P) jU dK rI iw wB bm;have jW:(getObj b).run P w=.ok (.map mes clock) w:=ayd;have iM:∀ob,(setObj b ob).run P w=.ok () {w with heap:=w.heap.setIfInBounds b ob}:=λob=>by grind[setObj,Sem.run]
    have fin:∀(yB:Array MapEntry) (D6:Nat),(execOp a.eval o).run P w=.ok .skip {w with heap:=w.heap.setIfInBounds b (.map yB D6)}->yB.size=(nD es hk (cE (aK gl st v')) j).length->
      (∀(q:Nat) (e:MapEntry) (pp:D×ag),yB[q]?=some e->(nD es hk (cE (aK gl st v')) j)[q]?=some pp->Rd w G e.key pp.1/\dc w G ρ e.val pp.2)->o.wp P a w (cy n0 gl nt w G ρ K) Q:=by
     intro yB D6 aw cm gP;obtain⟨f1,f2,f3,f4,f5⟩:=ae6 (ob:=.map yB D6) m2 m1 p.rel.lt;refine uu aw (jT p.eC (put_defers _ _ _) axB G ρ lam _ ?_ f4 (λ_ _ h=>h) hs);rw[aY];refine⟨λs=>(p.rel.aP s).bR f2 (λ_ _ h=>h) (λ_ _ h=>h) (f3 _ axt),?_,p.rel.nb,⟨by simpa using p.rel.ob.1,?_⟩,p.rel.eI.bR f2,f5⟩
     .intro s dY gp;obtain⟨aR,g1,g2⟩:=p.rel.bI s dY gp;exact⟨aR,g1,dJ.bR f2 (λ_ _ h=>h) (f3 _ axt) (λj=>f3 _ axt) g2⟩
     .intro q aR ob aT cq;by_cases lP:q=i
      .subst lP;rw[aq]at aT;simp at aT;obtain rfl:b=aR:=axs;have aB:q<st.s.length:=axv;simp[aAq aB,azJ]at cq;subst cq;exact⟨yB,D6,f1,m2,cm,λq e pp bW dh=>⟨(gP q e pp bW dh).1.keep f2,(gP q e pp bW dh).2.keep f2 λ_ _ h=>h⟩⟩
      .simp[aAm (azZ lP)]at cq;exact(p.rel.ob.2 q aR ob aT cq).bR f2 (λ_ _ h=>h) (f3 _ axv) (λk=>f3 _ axt)
    cases j with
    |none=>
     have wC:foundAt mes.toList 0 none=none:=rfl;rw[wC]at rJ;refine fin (mes.push {key:=a.eval k,val:=a.eval v,born:=clock}) (clock+1) ?_ (by grind[nD]) ?_
     .simp[execOp,bu,Instr.mapUpdate,azP,eB hu,azS,b8,jW,yx,rJ,iM,azU]
     .intro q e pp aT A6;simp only[nD]at A6;grind
    |some j=>
     have gB:j<es.length:=by have:=(A2 bm).2;omega
     have wD:j<mes.size:=axs;have yA:mes[j]?=some mes[j]:=axt;have wC:foundAt mes.toList 0 (some j)=some (j,mes[j].val):=by grind[foundAt]
     rw[wC]at rJ;have ae9:es[j]?=some es[j]:=azQ gB;have hT:cF ks hk.cells es[j].1.cells=some true/\ft ah es[j].1=true:=by
      have key:∀(es:List (D×ag)) (i j:Nat),fu ah ks hk es i=some (some j)->∃e,es[j-i]?=some e/\cF ks hk.cells e.1.cells=some true/\ft ah e.1=true:=by
       intro es;induction es with
       |nil=>grind[fu]
       |cons e es ih=>
        intro i j h;simp only[fu]at h;cases aE:ft ah e.1 with
        |false=>grind
        |true=>
         simp only[aE,azL]at h;split at h
         .grind
         .obtain⟨e',h1,h2⟩:=ih _ _ h;have kk:=(A2 h).1;grind
         grind
      grind
     have ld:=ae5 rI (m4 j _ _ yA ae9).1 iw hT.2 hT.1;have ae':(Instr.keyThatStays (((mes[j]?).map (·.key)).getD (a.eval k)) (a.eval k)).run P w=.ok (a.eval k) w:=by
      rw[yA];simp only[aAL,aBo,Instr.keyThatStays,ld,if_true,azU]
     refine fin (mes.modify j λe=>{e with key:=a.eval k,val:=a.eval v}) clock ?_ (by grind[nD]) ?_
     .simp only[execOp,bu,Instr.mapUpdate,azP,eB hu,azS,b8,jW,yx,rJ,ae',iM,azU]
     .intro q e pp aT A6;simp only[nD]at A6;grind
   .exact hs.elim
  .exact hs.elim
 .exact hs.elim
def aAu:=@List.mem_append
theorem aye(h:p:=by simp[refs]):p:=h
theorem pe{i:Nat}:∀{l:List Nat},dk i l=true↔i∈l
 |[]=>by simp[dk]
 |j::l=>by
  simp[dk,azY];cases h:Nat.beq i j with
  |true=>simp[azR h]
  |false=>
   have:i≠j:=by rintro rfl;simp at h
   simp[this,pe (l:=l)]
theorem Oi{i:Nat}:∀{l:List Nat},i∈l->l[k8 i l]?=some i
 |[],h=>axv
 |j::l,h=>by
  simp[k8];cases aq:Nat.beq i j with
  |true=>simp_all
  |false=>
   have:i≠j:=by grind[Nat.beq_refl]
   simp_all[Oi]
theorem A7:∀{l:List Nat} {i k:Nat},nodupB l=true->l[k]?=some i->k8 i l=k
 |[],i,k,_,h=>axv
 |j::l,i,k,az,h=>by
  simp[nodupB,azH,az8]at az;simp[k8];cases k with
  |zero=>
   simp_all
  |succ k=>
   simp at h;have hm:=aAe h;have cB:i≠j:=by rintro rfl;rw[pe.2 hm]at az;simp_all
   have aq:Nat.beq i j=false:=by rw[aA6];simp_all
   simp[aq,az7,A7 az.2 h]
theorem HW{f:Nat->Nat}(au:da w G w' G'):∀(n:Nat) {v:Value} {x:ag},dc w G ρ v x->(∀i b,i∈refs n x->ρ[i]?=some (b+1)->ρ'[f i]?=some (b+1))->dc w' G' ρ' v (ren f n x):=by
 intro n;induction n with
 |zero=>
  intro v x h aw;cases h with
  |undef v=>exact .undef v
  |d v y h=>exact .d v y (h.keep au)
  |nil a sz=>exact .nil a sz
  |ptr i off b h=>exact .ptr _ _ _ (aw i b aye h)
  |map i b h=>exact .map _ _ (aw i b aye h)
  |aS i off len cap et sz b h ay aQ=>exact .aS _ _ _ _ _ _ _ (aw i b aye h) ay (au.2.2 _ _ aQ)
  |func _ _ _ _ _ _ _=>exact .undef _
  |agg _ _ _=>exact .undef _
  |tuple _ _ _=>exact .undef _
  |fT _ _ _=>exact .undef _
 |succ n ih=>
  have D7:∀{vs:List Value} {xs:List ag},cf w G ρ vs xs->(∀i b,i∈xs.flatMap (refs n)->ρ[i]?=some (b+1)->ρ'[f i]?=some (b+1))->cf w' G' ρ' vs (xs.map (ren f n)):=by
   intro vs;induction vs with
   |nil=>intro xs h _;cases h;exact .nil
   |cons v vs HX=>
    intro xs h aw;cases h with
    |cons _ x _ xs h1 h2=>
     exact .cons _ _ _ _ (ih h1 λi b hi aq=>aw i b axv aq) (HX h2 λi b hi aq=>aw i b axu aq)
  intro v x h aw;cases h with
  |undef v=>exact .undef v
  |d v y h=>exact .d v y (h.keep au)
  |nil a sz=>exact .nil a sz
  |ptr i off b h=>exact .ptr _ _ _ (aw i b aye h)
  |map i b h=>exact .map _ _ (aw i b aye h)
  |aS i off len cap et sz b h ay aQ=>exact .aS _ _ _ _ _ _ _ (aw i b aye h) ay (au.2.2 _ _ aQ)
  |func g fj cs a c h1 h2=>
   refine .func _ _ _ _ _ (D7 h1 λi b hi aq=>aw i b ?_ aq) (D7 h2 λi b hi aq=>aw i b ?_ aq);all_goals grind[refs]
  |agg vs cs h=>exact .agg _ _ (D7 h λi b hi aq=>aw i b (by grind[refs]) aq)
  |tuple vs cs h=>exact .tuple _ _ (D7 h λi b hi aq=>aw i b (by grind[refs]) aq)
  |fT _ _ _=>exact .undef _
theorem Oj{f:Nat->Nat}{L L':Loc}{n:Nat}(au:da w G w' G')(hs:eV L L' w G w' G'){v:Value}{x:ag}(h:dr w G ρ L v x)(aw:∀i b,i∈refs n x->ρ[i]?=some (b+1)->ρ'[f i]?=some (b+1)):dr w' G' ρ' L' v (ren f n x):=by
 rcases h.cases with h|⟨sz,l,rfl,dV⟩|⟨sz,m,us,rfl,dV⟩
 .grind[HW,dr.ck]
 .have:ren f n (ij sz l)=ij sz l:=by cases n<;>cases l<;>rfl
  grind[dr.x',rh.bR]
 .have:ren f n (.raw sz m us)=.raw sz m us:=by cases n<;>rfl
  rw[this];exact o4.bR au hs dV
theorem HY{f:Nat->Nat}{n:Nat}(au:da w G w' G'):∀{vs:List Value} {xs:List ag},cf w G ρ vs xs->(∀i b,i∈xs.flatMap (refs n)->ρ[i]?=some (b+1)->ρ'[f i]?=some (b+1))->cf w' G' ρ' vs (xs.map (ren f n))
 |[],_,h,_=>by cases h;exact .nil
 |v::vs,_,h,aw=>by
  cases h with
  |cons _ x _ xs h1 h2=>
   exact .cons _ _ _ _ (HW au n h1 λi b hi aq=>aw i b (by simp[hi]) aq) (HY au h2 λi b hi aq=>aw i b (by simp only[aAX,aAu];exact .inr hi) aq)
theorem HZ{f:Nat->Nat}{i j b:Nat}{ob:b3}(au:da w G w' G')(hs:eV (.obj i) (.obj j) w G w' G')(ay:∀q,eV (.dx i q) (.dx j q) w G w' G')(h:kj w G ρ i b ob)
  (aw:∀i b,i∈ob.refs->ρ[i]?=some (b+1)->ρ'[f i]?=some (b+1)):kj w' G' ρ' j b (ob.ren f):=by
 cases ob with
 |dead=>trivial
 |hM t e bs=>
  obtain⟨p,v,h1,h2,av,aZ⟩:=h;obtain⟨aj,aD⟩:=hs _ _ h2;refine⟨p,v,aj.trans h1,aD,av,?_⟩;rcases aZ with aZ|⟨g,cap,c,fz,bh,a2,a3,a4⟩
  .simp_all
  .obtain⟨f1,f2⟩:=ay 1 _ _ a3;grind
 |hZ m=>
  rcases h with⟨since,last,h1,h2,av⟩|⟨k,aR,since,last,h1,h2,av,aZ⟩
  .obtain⟨aj,aD⟩:=hs _ _ h2;subst av;exact .inl ⟨since,last,aj.trans h1,aD,rfl⟩
  .obtain⟨aj,aD⟩:=hs _ _ aZ;subst h1;exact .inr ⟨f k,aR,since,last,rfl,aw k aR (by simp[b3.refs]) h2,aj.trans av,aD⟩
 |box cs=>
  obtain⟨c,E,fz,h1,h2,av,aZ,bW⟩:=h;obtain⟨aj,aD⟩:=hs _ _ av;refine⟨c,E,fz,aj.trans h1,h2,aD,axu,?_⟩;intro q v x hv ak;simp at ak;obtain⟨y,hy,rfl⟩:=ak;exact Oj au (ay q) (bW q v y hv hy) λi b hi aq=>aw i b (aBH.2 ⟨y,aAe hy,hi⟩) aq
 |map es=>
  obtain⟨mes,clock,h1,h2,av,aZ⟩:=h;obtain⟨aj,aD⟩:=hs _ _ h2;refine⟨mes,clock,aj.trans h1,aD,axu,?_⟩;intro q e p he hp;simp only[aAK,aAt]at hp;obtain⟨y,hy,rfl⟩:=hp;exact⟨(aZ q e y he hy).1.keep au,HW au depth (aZ q e y he hy).2 λi b hi aq=>aw i b (aBH.2 ⟨y,aAe hy,hi⟩) aq⟩
theorem H0:∀{ids:List Nat} {s:aV} {l:List b3},ids.length<=l.length->(merge s ids l).length=s.length+(l.length-ids.length)
 |[],s,[],_=>by simp[merge]
 |[],s,o::l,_=>by simp[merge]
 |_::_,_,[],h=>axv
 |i::ids,s,o::l,h=>by
  simp[merge];rw[H0 (by simpa using h)];simp
theorem H2:∀{ids:List Nat} {s:aV} {l:List b3} {i:Nat} {ob:b3},ids.length<=l.length->nodupB ids=true->(∀j,j∈ids->j<s.length)->(merge s ids l)[i]?=some ob->
  (∃k:Nat,ids[k]?=some i/\l[k]?=some ob)\/(i∉ids/\i<s.length/\s[i]?=some ob)\/(s.length<=i/\l[ids.length+(i-s.length)]?=some ob)
 |[],s,[],i,ob,_,_,_,h=>by
  grind[merge]
 |[],s,o::l,i,ob,_,_,_,h=>by
  grind[merge]
 |_::_,_,[],_,_,h,_,_,_=>axv
 |j::ids,s,o::l,i,ob,aH,az,hs,h=>by
  simp[nodupB,azH,az8]at az;have gB:=hs j axt;rcases H2 axu az.2 (λq aT=>axu) h with⟨k,h1,h2⟩|⟨h1,h2,av⟩|⟨h1,h2⟩
  .exact .inl ⟨k+1,axu,axu⟩
  .by_cases eQ:i=j
   .subst eQ;exact .inl ⟨0,axt,axu⟩
   grind
  grind
theorem axD(h:p:=by simp;omega):p:=h
theorem azh(h:p:=by rw[aA6];intro h;exact h1 (pe.1 h)):p:=h
def ji(ids:List Nat):Loc->Loc
 |.obj i=>cond (dk i ids) (.obj (k8 i ids)) .foreign
 |.dx i q=>cond (dk i ids) (.dx (k8 i ids) q) .foreign
 |_=>.foreign
def rK(ids:List Nat)(len:Nat)(D:Loc):Loc->Loc
 |.obj j=>.obj (back ids len j)
 |.dx j q=>.dx (back ids len j) q
 |.res=>D
 |_=>.res
def kR(ids:List Nat)(len:Nat)(D:Loc)(n:Nat)(G gC:bJ):bJ:=λb=>
 if b<n then match G b with
  |none=>none
  |some (L,m)=>if ji ids L=.foreign then some (L,m)else(gC b).map λp=>(rK ids len D p.1,p.2)
 else(gC b).map λp=>(rK ids len D p.1,p.2)
theorem Ol{ids:List Nat}{len:Nat}{D L:Loc}(cH:D≠.foreign):rK ids len D L≠.foreign:=by
 cases L<;>simp[rK,cH]
section
variable {ids:List Nat}{len:Nat}{D:Loc}{gC:bJ}(di:Good w (cZ (ji ids) G) w' gC)(aB:∀b L n,G b=some (L,n)->b<w.heap.size)
include di
theorem afa{b:Nat}{L:Loc}{n:Nat}(h:gC b=some (L,n))(bF:L≠.foreign):kR ids len D w.heap.size G gC b=some (rK ids len D L,n):=by
 unfold kR;split
 .rename_i aq;cases aE:G b with
  |none=>
   have:=(di.il b aq (.inl axU)).2;grind[cZ]
  |some p=>
   obtain⟨L0,m⟩:=p;simp;split
   .rename_i bm;have aw:cZ (ji ids) G b=some (.foreign,m):=axU;have:=(di.il b aq (.inr ⟨m,aw⟩)).2;simp_all
   simp_all
 simp_all
theorem yC{L:Loc}(bF:L≠.foreign):eV L (rK ids len D L) w' gC w' (kR ids len D w.heap.size G gC):=
 λ_ _ h=>⟨rfl,afa di h bF⟩
theorem afb{b:Nat}(h:gC b=none):kR ids len D w.heap.size G gC b=none:=by
 unfold kR;split
 .rename_i aq;cases aE:G b with
  |none=>rfl
  |some p=>
   obtain⟨L0,m⟩:=p;simp;split
   .rename_i bm;have aw:cZ (ji ids) G b=some (.foreign,m):=axU;have:=(di.il b aq (.inr ⟨m,aw⟩)).2;simp_all
   simp_all
 simp_all
theorem H3:da w' gC w' (kR ids len D w.heap.size G gC):=by
 refine⟨?_,λb o h=>⟨afb di h.1,h.2⟩,λ_ _ h=>h⟩;intro b off v h;refine⟨h.1,?_,h.2.2⟩;intro L n dB;unfold kR at dB;split at dB
 .rename_i aq;cases aE:G b with
  |none=>simp_all
  |some p=>
   obtain⟨L0,m⟩:=p;simp[aE]at dB;split at dB
   .rename_i bm;simp at dB;obtain⟨rfl,rfl⟩:=dB;have aw:cZ (ji ids) G b=some (.foreign,m):=axU;have:=(di.il b aq (.inr ⟨m,aw⟩)).2;rw[aw]at this;exact h.2.1 _ _ this
   .cases h1:gC b with
    |none=>simp_all
    |some q=>
     simp[h1,aAL,azJ,aAd]at dB;obtain⟨_,rfl⟩:=dB;exact h.2.1 _ _ h1
 .cases h1:gC b with
  |none=>simp_all
  |some q=>
   simp[h1,aAL,azJ,aAd]at dB;obtain⟨_,rfl⟩:=dB;exact h.2.1 _ _ h1
theorem H4:da w G w' (kR ids len D w.heap.size G gC):=((jD (ji ids)).trans di.keep).trans (H3 di)
include aB
theorem D8{L:Loc}(bF:ji ids L=.foreign):eV L L w G w' (kR ids len D w.heap.size G gC):=by
 intro b n h;have aq:=aB _ _ _ h;have aw:cZ (ji ids) G b=some (.foreign,n):=axU;refine⟨(di.il b aq (.inr ⟨n,aw⟩)).1,?_⟩;grind[kR]
omit aB in
theorem H5(cH:D≠.foreign):Good w G w' (kR ids len D w.heap.size G gC) where
 size:=di.size
 il b aq h:=by
  rcases h with h|⟨n,h⟩
  .exact⟨(di.il b aq (.inl axU)).1,by grind[kR]⟩
  .have aw:cZ (ji ids) G b=some (.foreign,n):=by grind[cZ,ji]
   exact⟨(di.il b aq (.inr ⟨n,aw⟩)).1,by grind[kR,ji]⟩
 new b n aq h:=by
  unfold kR at h;rw[aAc (aAW.2 aq)]at h;simp_all[Ol]
 old b n aq h:=by
  unfold kR at h;rw[aAa aq]at h;cases aE:G b with
  |none=>simp_all
  |some p=>
   obtain⟨L0,m⟩:=p;simp[aE]at h;split at h;all_goals simp_all[Ol]
 keep:=H4 di
 os:=di.os
 out:=di.out
omit aB in
theorem Om(yD:∀b L n,gC b=some (L,n)->b<w'.heap.size):∀b L n,kR ids len D w.heap.size G gC b=some (L,n)->b<w'.heap.size:=by
 intro b L n h;rcases aAv b w.heap.size with aq|aq
 .exact az' aq di.size
 .unfold kR at h;rw[aAc (aAW.2 aq)]at h;cases h1:gC b with
  |none=>simp_all
  |some q=>grind
end
theorem afc{f:Nat}{args:List ag}{vs:List Value}{K:ag->aV->Prop}{D:Loc}(p:bX gl w G ρ lam a.tmps st)(cH:D≠.foreign)(rq:cf w G ρ vs args)(hs:kG (bz P gl) f args st.s K):
  gL P f/\Calls P f ⟨vs⟩ w λe w'=>∃v r s' fU ρ2,e=.returned v/\dr w' fU ρ2 D v r/\ho w' fU ρ2 s'/\Good w G w' fU/\(∀i b:Nat,ρ[i]?=some b->ρ2[i]?=some b)/\(∀b L n,fU b=some (L,n)->b<w'.heap.size)/\
   (∀L,(∀i q,L≠.obj i/\L≠.dx i q)->L≠.foreign->eV L L w G w' fU)/\o5 gl w' fU/\K r s':=by
 obtain⟨aE,hs⟩:=hs;simp at aE;obtain⟨⟨⟨yE,hnd⟩,ix⟩,qf⟩:=aE;obtain⟨r,s',nH,hlen,ao⟩:=hs;have hlen:=azW hlen;obtain⟨yF,nH⟩:=nH;refine⟨yF,?_⟩;generalize atO:reach st.s (st.s.length+st.s.length+8) (args.flatMap (refs depth)) []=ids at*;simp only[closed,azH,azX,pe]at ix;obtain⟨afd,yG⟩:=ix;have afe:∀i,i∈ids->i<st.s.length:=by
  intro i hi;have:=(azX.1 yE) i hi;grind[Nat.blt_eq]
 have H6:=p.ob.1;let A8:=ids.map λi=>ρ.getD i 0;have H7:∀(i b:Nat),i∈ids->ρ[i]?=some b->A8[k8 i ids]?=some b:=by
  grind[Oi]
 have uD:=jD (w:=w) (G:=G) (ji ids);have aff:∀i,i∈ids->ji ids (.obj i)=.obj (k8 i ids):=λi hi=>by simp[ji,pe.2 hi]
 have atP:∀i q,i∈ids->ji ids (.dx i q)=.dx (k8 i ids) q:=λi q hi=>by simp[ji,pe.2 hi]
 have afg:ho w (cZ (ji ids) G) A8 (ids.map λi=>(st.s.getD i .dead).ren λi=>k8 i ids):=by
  refine⟨axv,?_⟩;intro k b ob aq cq;simp[A8,aAK,aAt]at aq cq;obtain⟨i,hi,lh⟩:=aq;obtain⟨iI,je,rfl⟩:=cq;rw[hi]at je;simp at je;subst je;have mV:=aAe hi;have au:=A7 hnd hi;have aq:ρ[i]?=some (b+1):=axv;have h1:=oh (w:=w) (G:=G) (ji ids) (.obj i);rw[aff i mV,au]at h1;refine HZ uD h1 (λq=> ?_) (p.ob.at aq) λj cg aL eW=>H7 j _ (yG i mV j aL) eW;grind[oh]
 have H8:=HY (f:=λi=>k8 i ids) (n:=depth) (ρ':=A8) uD rq λi b hi aq=>H7 i _ (afd i hi) aq;refine(nH w (cZ (ji ids) G) A8 vs afg (p.eI.bR uD) (qc p.lt) H8).mono ?_;rintro e w' ⟨v,gC,jY,rfl,aw,A9,yD,di,On⟩;have afh:=hlen;have atQ:=A9.1;let ρ2:=(ρ.mapIdx λi e=>cond (dk i ids) (jY.getD (k8 i ids) 0) e)++jY.drop ids.length;have uE:∀(i e:Nat),ρ[i]?=some e->ρ2[i]?=some (cond (dk i ids) (jY.getD (k8 i ids) 0) e):=axv;have D9:∀i b:Nat,ρ[i]?=some b->ρ2[i]?=some b:=by
  intro i b hi;rw[uE i _ hi];cases he:dk i ids with
  |false=>rfl
  |true=>
   rw[aAo,On _ _ (H7 i b (pe.1 he) hi)];rfl
 have h9:∀(j i:Nat),ids[j]?=some i->ρ2[i]?=some (jY.getD j 0):=by
  intro j i aL;have mV:=aAe aL;rw[uE i _ (azQ axv),pe.2 mV,A7 hnd aL];rfl
 have mq:∀j b:Nat,jY[j]?=some (b+1)->ρ2[back ids st.s.length j]?=some (b+1):=by
  intro j b aL;unfold back;rcases aAv j ids.length with gB|gB
  .rw[azQ gB];simp;rw[h9 j _ (azQ gB),aAo,aL];rfl
  .rw[aBJ gB];simp;rw[aAA axv,List.length_mapIdx,H6,aBh];rw[show ids.length+(st.s.length+(j-ids.length)-st.s.length)=j by omega];omega
 have fe:=H3 (len:=st.s.length) (D:=D) di;refine⟨v,ren (back ids st.s.length) depth r,merge st.s ids (s'.map (b3.ren (back ids st.s.length))),kR ids st.s.length D w.heap.size G gC,ρ2,rfl,?_,⟨?_,?_⟩,H5 di cH,D9,Om di yD,?_,?_,ao⟩
 .exact Oj fe (yC di (L:=.res) axt) aw λi b _ aq=>mq i b aq
 .grind[H0]
 .intro i b ob aq cq;rcases H2 (by simpa using afh) hnd (λj aL=>afe j aL) cq with⟨k,h1,h2⟩|⟨h1,h2,av⟩|⟨h1,h2⟩
  ·
   simp at h2;obtain⟨s0,wx,rfl⟩:=h2;have mV:=aAe h1;have au:jY[k]?=some (b+1):=by
    have:=h9 k i h1;rw[aq]at this;simp only[azJ]at this;rw[aAo]at this;cases aT:jY[k]? with
    |none=>rw[aT]at this;simp at this
    |some e=>rw[aT]at this;simp at this;rw[this]
   have aZ:=A9.2 k b s0 au wx;have jZ:back ids st.s.length k=i:=by simp[back,h1]
   have aj:=yC (len:=st.s.length) (D:=D) di (L:=.obj k) axt;simp[rK,jZ]at aj;refine HZ fe aj (λq=> ?_) aZ λj cg _ eW=>mq j cg eW;have aD:=yC (len:=st.s.length) (D:=D) di (L:=.dx k q) axt;simpa only[rK,jZ]using aD
  ·
   have iu:ρ[i]?=some (b+1):=by
    have:=azQ (show i<ρ.length by rw[H6];exact h2);have cB:dk i ids=false:=azh;have aZ:=uE _ _ this;rw[aq,cB]at aZ;rw[this];exact aZ.symm
   have cB:dk i ids=false:=azh;exact(p.ob.2 i b ob iu av).bR (H4 di) (λi b=>D9 i (b+1)) (D8 di p.lt (by simp[ji,cB])) (λq=>D8 di p.lt (by simp[ji,cB]))
  ·
   simp[aAK,aAt]at h2;obtain⟨s0,wx,rfl⟩:=h2;have jZ:back ids st.s.length (ids.length+(i-st.s.length))=i:=by
    unfold back;rw[aBJ axs];simp only;omega
   have gZ:jY[ids.length+(i-st.s.length)]?=some (b+1):=by
    simp[ρ2]at aq;rw[aAA axD,List.length_mapIdx,H6,aBh]at aq;exact aq
   have aZ:=A9.2 _ b s0 gZ wx;have aj:=yC (len:=st.s.length) (D:=D) di (L:=.obj (ids.length+(i-st.s.length))) axt;simp[rK,jZ]at aj;refine HZ fe aj (λq=> ?_) aZ λj cg _ eW=>mq j cg eW;have aD:=yC (len:=st.s.length) (D:=D) di (L:=.dx (ids.length+(i-st.s.length)) q) axt;simpa only[rK,jZ]using aD
 .intro L bF bm;refine D8 di p.lt ?_;cases L<;>first|rfl|exact absurd rfl (bF _ 0).1|exact absurd rfl (bF _ _).2
 .exact(p.eI.bR uD).bR di.keep |>.bR fe
def aCo:=@List.all_append
def aBK:=@List.flatMap_eq_nil_iff
theorem Oo{f:Nat}{vs:Array Value}(h:gL P f):(callFunc f vs).run P w=.ok (.enter f vs) w:=by
 obtain⟨fn,h1,h2,av⟩:=h;have az:fn.body≠none:=axv;have av:fn.name≠ "runtime.NumGoroutine" :=axu;simp[callFunc,h1,av,az]
theorem Oq{f:Nat}{c:Call}{fo:Operand}{fj cs:List Value}(ay:c.callee=.value fo)(bu:o.op=.call c)(bm:a.eval fo=.func (.func f) ⟨fj⟩ ⟨cs⟩)(h:gL P f):
  (execOp a.eval o).run P w=.ok (.enter f ⟨fj++c.args.toList.map a.eval++cs⟩) w:=by
 have e:(#[]:Array Value)=⟨[]⟩:=rfl;simp[execOp,bu,azP,resolve,ay,bm,Deferred.ofValue,azU,azS,invoke];simp_all[Oo]
theorem bX.called{w':World}{fU:bJ}{ρ2:List Nat}{s':aV}(h:bX gl w G ρ lam a.tmps st)(cq:ho w' fU ρ2 s')(di:Good w G w' fU)(cM:∀i b:Nat,ρ[i]?=some b->ρ2[i]?=some b)
  (aB:∀b L n,fU b=some (L,n)->b<w'.heap.size) (hs:∀L,(∀i q,L≠.obj i/\L≠.dx i q)->L≠.foreign->eV L L w G w' fU) (aE:o5 gl w' fU):
  bX gl w' fU ρ2 lam a.tmps {st with s:=s'} where
 aP t:=(h.aP t).bR di.keep (λi b=>cM i (b+1)) (λ_ _ h=>h) (hs _ (λ_ _=>⟨axt,axt⟩) axt)
 bI t cs aq:=by
  obtain⟨b,h1,h2⟩:=h.bI t cs aq;exact⟨b,h1,dJ.bR di.keep (λi b=>cM i (b+1)) (hs _ (λ_ _=>⟨axt,axt⟩) axt) (λj=>hs _ (λ_ _=>⟨axt,axt⟩) axt) h2⟩
 nb:=h.nb
 ob:=cq
 eI:=aE
 lt:=aB
theorem D'{w0:World}{G0:bJ}{ρ0:List Nat}{d:Option Nat}{v:Value}{x:ag}{st:af}(h:bX gl w G ρ lam a.tmps st)(vU:Marks n0 w0 G0 a.defers)(az:nt<=a.tmps.size)(bp:∀t,d=some t->t<nt)(aE:Good w0 G0 w G)(yb:∀i b:Nat,ρ0[i]?=some b->ρ[i]?=some b)(aY:o.dst=d)
  (hv:∀t,d=some t->de w G ρ lam (.slot t) v x) (ao:K (st.dA d x)):cy n0 gl nt w0 G0 ρ0 K (a.put o.dst v) w:=by
 cases d with
 |some t=>exact nF h vU az (bp t rfl) aE yb aY (hv t rfl) ao
 |none=>rw[aY];exact jT vU rfl az G ρ lam st h aE yb ao
def A':Option Nat->Loc
 |some t=>.slot t
 |none=>.res
theorem H9(d:Option Nat):A' d≠.foreign:=by cases d<;>simp[A']
theorem afi{xs:List Operand}{ys:List O}(p:bV n0 gl nt w G ρ lam a st)(ak:hD (λx y=>∃t,bP P t x=some y) xs ys)(qf:(ys.map (jC gl st)).all (dU depth)=true):
  cf w G ρ (xs.map a.eval) (ys.map (jC gl st)):=by
 induction ak with
 |nil=>exact .nil
 |@cons x y xs ys h1 h2 ih=>
  simp only[aAh,aBt,azH]at qf;refine .cons _ _ _ _ ?_ (ih qf.2);have av:jC gl st y=cE (snap (aK gl st y))\/∃sz,y=.c (.own sz [])/\jC gl st y=.own sz []:=by
   unfold jC;grind
  rcases av with av|⟨sz,rfl,av⟩
  .have:=AL (xs:=[x]) (ys:=[y]) p (.cons h1 .nil) axu;rw[av];cases this with
   |cons _ _ _ _ h _=>exact h
  .obtain⟨t,h1⟩:=h1;obtain⟨L,ew⟩:=dC h1 p.rel;exact ew
theorem Ot{d:Option Nat}{f:Nat}{c:Call}{fo:Operand}{fj cs:List Value}{a' c':List ag}{ys:List O}(p:bV n0 gl nt w G ρ lam a st)(aY:o.dst=d)(bp:∀t,d=some t->t<nt)(bu:o.op=.call c)
  (ay:c.callee=.value fo) (bm:a.eval fo=.func (.func f) ⟨fj⟩ ⟨cs⟩) (h1:cf w G ρ fj a') (h2:cf w G ρ cs c') (ak:hD (λx y=>∃t,bP P t x=some y) c.args.toList ys)
  (hs:kG (bz P gl) f (a'++ys.map (jC gl st)++c') st.s λr s'=>K ({st with s:=s'}.dA d r)):o.wp P a w (cy n0 gl nt w G ρ K) Q:=by
 have qf:(ys.map (jC gl st)).all (dU depth)=true:=by
  have:=hs.1;simp_all
 obtain⟨yF,hC⟩:=afc p.rel (D:=A' d) (H9 d) ((h1.append (afi p ak qf)).append h2) hs;unfold Oper.wp;rw[Oq ay bu bm yF,Oper.upon_enter];refine hC.mono ?_;rintro e w' ⟨v,r,s',fU,ρ2,rfl,aw,cq,di,cM,aB,hT,Ba,ao⟩;have dt:=p.rel.called cq di cM aB hT Ba;exact D' dt p.eC p.sz bp di cM aY (λt aC=>by subst aC;exact .lb aw) ao
theorem Ou{d:Option Nat}{c:Call}{fo:Operand}{Ov:O}{t:Nat}{ys:List O}(p:bV n0 gl nt w G ρ lam a st)(aY:o.dst=d)(bp:∀t,d=some t->t<nt)(bu:o.op=.call c)
  (ay:c.callee=.value fo) (oi:bP P t fo=some Ov) (ak:hD (λx y=>∃t,bP P t x=some y) c.args.toList ys)
  (hs:step (bz P gl) gl (.dH d Ov ys) st K):o.wp P a w (cy n0 gl nt w G ρ K) Q:=by
 obtain⟨L,bm⟩:=dC oi p.rel;simp only[step]at hs;split at hs
 .rename_i f he;rw[he]at bm;have bm:=bm.iq;have bm:a.eval fo=.func (.func f) ⟨[]⟩ ⟨[]⟩:=by
   generalize a.eval fo=v at bm;cases bm;rfl
  refine Ot (a':=[]) (c':=[]) p aY bp bu ay bm .nil .nil ak ?_;simp_all
 .rename_i f a0 c0 he;rw[he]at bm;have Ow:=bm;generalize hv:a.eval fo=v at Ow;cases Ow with
  |func _ fj cs _ _ h1 h2=>exact Ot p aY bp bu ay hv h1 h2 ak hs
 .exact hs.elim
theorem afj{f:Nat->Nat}:∀(n:Nat) (x:ag),dU n x=true->refs n x=[]->ren f n x=x:=by
 intro n;induction n with
 |zero=>intro x h1 h2;cases x<;>simp[dU,refs,ren]at h1 h2⊢
 |succ n ih=>
  have Bb:∀l:List ag,(∀x,x∈l->dU n x=true)->(∀x,x∈l->refs n x=[])->l.map (ren f n)=l:=by
   intro l h1 h2;induction l with
   |nil=>rfl
   |cons x l atS=>simp_all
  intro x h1 h2;cases x with
  |func g a c=>
   simp[dU,aCo,azH,azX]at h1;simp[refs,aCn,List.append_eq_nil_iff,aBK]at h2;simp[ren,Bb a h1.1 h2.1,Bb c h1.2 h2.2]
  |agg cs=>
   grind[dU,refs,List.flatMap_eq_nil_iff,ren]
  |tuple cs=>
   grind[dU,refs,List.flatMap_eq_nil_iff,ren]
  |undef=>grind[dU]
  |fT i=>grind[dU]
  |dT t off=>grind[dU]
  |d x=>rfl
  |own sz l=>rfl
  |gE sz=>rfl
  |raw sz m us=>rfl
  |ptr i off=>grind[refs]
  |map i=>grind[refs]
  |aS i off len cap sz=>grind[refs]
theorem afk{d:Option Nat}{c:Call}{f:Nat}{ys:List O}(p:bV n0 gl nt w G ρ lam a st)(aY:o.dst=d)(bp:∀t,d=some t->t<nt)(bu:o.op=.call c)
  (ay:c.callee=.value (.func f)) (ak:hD (λx y=>∃t,bP P t x=some y) c.args.toList ys)
  (hs:step (bz P gl) gl (.p3 d f ys) st K):o.wp P a w (cy n0 gl nt w G ρ K) Q:=by
 obtain⟨aE,r,s',nH,ff,ao⟩:=hs;simp only[azH,List.isEmpty_iff]at aE ff;obtain⟨yF,nH⟩:=nH;obtain⟨Bc,_⟩:=ff;have bm:a.eval (.func f)=.func (.func f) ⟨[]⟩ ⟨[]⟩:=rfl;unfold Oper.wp;rw[Oq ay bu bm yF,Oper.upon_enter];have uD:=jD (w:=w) (G:=G) (ji []);have rq:=AL p ak aE.2;have H8:cf w (cZ (ji []) G) [] (c.args.toList.map a.eval) (ys.map λx=>cE (snap (aK gl st x))):=by
  have:=HY (f:=id) (n:=depth) (ρ':=[]) uD rq (λi b hi=>axv);have e:(ys.map λx=>cE (snap (aK gl st x))).map (ren id depth)=ys.map λx=>cE (snap (aK gl st x)):=by
   generalize aH:(ys.map λx=>cE (snap (aK gl st x)))=l at aE;have h1:=azX.1 aE.2;have h2:=aBK.1 aE.1;clear aH rq this;induction l with
   |nil=>rfl
   |cons x l ih=>
    rw[aAh,afj depth x (h1 x axt) (h2 x axt),ih ⟨aBK.2 λy hy=>h2 y axv,azX.2 λy hy=>h1 y axv⟩ (λy hy=>h1 y axv) (λy hy=>h2 y axv)]
  grind
 have:=nH w (cZ (ji []) G) [] _ ⟨rfl,λi b ob aq=>axt⟩ (p.rel.eI.bR uD) (qc p.rel.lt) H8;simp;refine this.mono ?_;rintro e w' ⟨v,gC,jY,rfl,aw,A9,yD,di,_⟩;have On:jY=[]:=by have:=A9.1;grind
 have fe:=H3 (len:=st.s.length) (D:=A' d) di;have kQ:∀L,L≠.foreign->eV L L w G w' (kR [] st.s.length (A' d) w.heap.size G gC):=λL bF=>D8 di p.rel.lt (by cases L<;>first|rfl|exact absurd rfl bF);have dt:=p.rel.called (s':=st.s) (ρ2:=ρ) (p.rel.ob.bR (H4 di) (λi=>kQ _ axt) (λi j=>kQ _ axt)) (H5 di (H9 d)) (λ_ _ h=>h) (Om di yD) (λL _ bF=>kQ L bF)
  ((p.rel.eI.bR uD).bR di.keep |>.bR fe)
 refine D' dt p.eC p.sz bp (H5 di (H9 d)) (λ_ _ h=>h) aY (λt aC=> ?_) ao;subst aC;exact .lb (aw.bR fe (λi b h=>axv) (yC di (L:=.res) axt))
def aBx:=@Array.ext'
def aBy:=@Bool.true_and
theorem atT{x:ag}{sz:Nat}{l:List D}:cE (snap x)≠.own sz l:=by
 intro e;cases x<;>simp[snap,cE]at e;grind
theorem afl{t:Nat}{x:Operand}{y:O}(p:bV n0 gl nt w G ρ lam a st)(ak:bP P t x=some y)(fQ:(cellsOf (gJ (aK gl st y))).all kc=true):cf w G ρ (a.eval x).cells.toList (cellsOf (gJ (aK gl st y))):=by
 have az:(cellsOf (gJ (aK gl st y))).all (dU depth)=true:=by
  simp_all[kc]
 obtain⟨L,ew⟩:=dC ak p.rel;grind[DK,dc.cells]
theorem Ox{sz:Nat}(p:bV n0 gl nt w G ρ lam a st):∀{xs:List Operand} {ys:List O},hD (λx y=>∃t,bP P t x=some y) xs ys->
  ((ys.map λx=>cellsOf (gJ (aK gl st x))).all λl=>Nat.beq l.length sz&&l.all kc)=true->
  cf w G ρ (xs.flatMap λx=>(a.eval x).cells.toList) (ys.map λx=>cellsOf (gJ (aK gl st x))).flatten/\(∀x,x∈xs->(a.eval x).cells.size=sz)/\(xs.flatMap λx=>(a.eval x).cells.toList).length=ys.length*sz
 |[],_,h,_=>by cases h;exact⟨.nil,axt,axt⟩
 |x::xs,_,h,fQ=>by
  cases h with
  |cons h1 h2=>
   rename_i y ys;obtain⟨t,h1⟩:=h1;simp only[aAh,aBt,azH]at fQ;obtain⟨⟨br,aq⟩,ay⟩:=fQ;have aw:=afl p h1 aq;have aH:=azR br;obtain⟨aj,aD,aW⟩:=Ox p h2 ay;have hs:(a.eval x).cells.size=sz:=by rw[<-aCl,aw.length,aH]
   refine⟨?_,?_,?_⟩
   .grind[cf.append]
   all_goals grind
theorem afm{d t e n len:Nat}{ps:Array (Nat×Operand)}{ys:List O}{z:List ag}(p:bV n0 gl nt w G ρ lam a st)(aY:o.dst=some d)(bp:d<nt)(bu:o.op=.buildSlice t len ps)
  (hu:P.underlying t=some (.slice e)) (az:dp P e=some n) (aey:0<n) (aQ:zeros P e=some z) (rz:ps.toList.map (·.1)=List.range len) (nJ:len*n<=2^24)
  (aT:hD (λx y=>∃t,bP P t x=some y) (ps.toList.map (·.2)) ys)
  (hs:step (bz P gl) gl (.q4 d n ys) st K):o.wp P a w (cy n0 gl nt w G ρ K) Q:=by
 obtain⟨i,ec,h1,h2,av,aZ,bW⟩:=nG aQ;have dM:i.size=n:=axX;have rA:=axs;obtain⟨aE,hs⟩:=hs;simp only[azH]at aE;obtain⟨aW,bQ,cK⟩:=Ox p aT aE.2;have hlen:ps.toList.length=len:=by have:=congrArg List.length rz;grind
 have rL:ys.length=len:=by have:=hD.length aT;simp_all
 have NR:ps.map (λx=>(x.1,a.eval x.2))=⟨(List.range' 0 (ps.toList.map λx=>a.eval x.2).length).zip (ps.toList.map λx=>a.eval x.2)⟩:=by
  grind[List.range_eq_range']
 have yh:∀c0:Array Value,c0.size=len*n->Instr.fill (λi=>some (i*n,n)) c0 (ps.map (λx=>(x.1,a.eval x.2))).toList=some ⟨(ps.toList.map λx=>a.eval x.2).flatMap λv=>v.cells.toList⟩:=by
  intro c0 ael;rw[NR];have:=HB (sz:=n) (ps.toList.map λx=>a.eval x.2) 0 [] c0.toList axt axu (λv hv=>axv);simp_all
 have aem:((ps.toList.map λx=>a.eval x.2).flatMap λv=>v.cells.toList)=(ps.toList.map (·.2)).flatMap λx=>(a.eval x).cells.toList:=by
  generalize ps.toList=q;induction q with
  |nil=>rfl
  |cons y ys ih=>grind
 have dy:(Instr.buildSlice t len (ps.map λx=>(x.1,a.eval x.2))).run P w=.ok (.slice (some ⟨w.heap.size,0,none⟩) len len) {w with heap:=w.heap.push (.cells ⟨(ps.toList.map (·.2)).flatMap λx=>(a.eval x).cells.toList⟩ e)}:=by
  have iY:¬len*n>2^24:=axs;unfold Instr.buildSlice;simp only[azP,eB hu,azS,jE az,aBg,aAc iY,azU];simp_all[newRow,rr]
 have fC:(execOp a.eval o).run P w=.ok (.value (.slice (some ⟨w.heap.size,0,none⟩) len len)) {w with heap:=w.heap.push (.cells ⟨(ps.toList.map (·.2)).flatMap λx=>(a.eval x).cells.toList⟩ e)}:=aya;have hw:ga w (.cells ⟨(ps.toList.map (·.2)).flatMap λx=>(a.eval x).cells.toList⟩ e) {w with heap:=w.heap.push (.cells ⟨(ps.toList.map (·.2)).flatMap λx=>(a.eval x).cells.toList⟩ e)}:=⟨rfl,rfl,rfl⟩;have rH:(ρ++[w.heap.size+1])[st.s.length]?=some (w.heap.size+1):=axS;refine fP fC (jT p.eC (put_defers _ _ _) axB _ (ρ++[w.heap.size+1]) lam _ ?_ (hw.good p.rel.lt (L0:=.obj st.s.length) (n0:=0) axt) (λi b h=>hE i _ h) hs);rw[aY];refine p.rel.uB hw (az' bp p.sz) ?_ ?_
 .exact dJ.bR (da.refl _ _) (λi b h=>hE i _ h) (λb n h=>⟨rfl,h⟩) (λj b n h=>⟨rfl,h⟩) (wg (LC:=.dx st.s.length) hw aW)
 .rw[rL];refine .aS _ _ _ _ _ _ _ rH (azI _) ⟨_,e,(0,0),hw.new,?_⟩;simp_all
where
 hD.length {α β:Type} {R:α->β->Prop}:∀{xs:List α} {ys:List β},hD R xs ys->xs.length=ys.length
  |_,_,.nil=>rfl
  |_,_,.cons _ h=>by simp[hD.length h]
theorem H'{vs:List Value}{z:List ag}(h:∀{w:World} {G:bJ} {ρ:List Nat},cf w G ρ vs z):∀n:Nat,cf w G ρ (List.replicate n vs).flatten (List.replicate n z).flatten
 |0=>.nil
 |n+1=>by
  exact h.append (H' h n)
theorem Ia{α:Type}{l:List α}:∀n:Nat,(List.replicate n l).flatten.length=n*l.length
 |0=>axt
 |n+1=>axt
theorem Oy{zero:Array Value}(h0:0<zero.size)(n:Nat):((Array.range (n*zero.size)).map (zero[·%zero.size]!))=⟨(List.replicate n zero.toList).flatten⟩:=by
 apply aBx;apply aBj;intro j;have key:∀(n:Nat) (j:Nat),(List.replicate n zero.toList).flatten[j]?=if j<n*zero.size then zero.toList[j%zero.size]? else none:=by
  intro n;induction n with
  |zero=>simp
  |succ n ih=>
   intro j;simp only[List.replicate_succ,List.flatten_cons];by_cases aL:j<zero.size
   .rw[aAp axs,aAa axv,Nat.mod_eq_of_lt aL]
   .rw[Nat.mod_eq_sub_mod (aAW.1 aL)];grind
 rw[key];by_cases aL:j<n*zero.size
 .simp_all[Nat.mod_lt]
 grind
theorem wrap_small{n:Int}(h0:0<=n)(h1:n<=9223372036854775807):IntKind.i64.wrap n=n:=by
 have h2:(2:Int)^(64-1)=9223372036854775808:=axw;have av:(2:Int)^64=18446744073709551616:=axw;simp[IntKind.wrap,IntKind.signed,IntKind.bits,h2,av,aBy,azN];omega
theorem Oz{t e sz bt:Nat}{z:List ag}{k:IntKind}{n:Int}(hu:P.underlying t=some (.slice e))(az:dp P e=some sz)(gq:0<sz)(aQ:zeros P e=some z)(ko:bytesOf P e=some bt)(iu:0<bt)(h0:0<=n)(h1:n<=((1099511627776/bt:Nat):Int)):
  ∃vs:List Value,vs.length=n.toNat*sz/\(∀{w:World} {G:bJ} {ρ:List Nat},cf w G ρ vs (List.replicate n.toNat z).flatten)/\
   (Instr.makeSlice t (.int k n) (.int k n)).run P w=.ok (.slice (some ⟨w.heap.size,0,none⟩) n.toNat n.toNat) {w with heap:=w.heap.push (.cells ⟨vs⟩ e)}:=by
 obtain⟨i,ec,g',z2,z3,z4,z5⟩:=nG aQ;have oq:i.bytes=bt:=ayb;have wq:i.size=sz:=axX;have rA:=axs;refine⟨(List.replicate n.toNat ec.cells.toList).flatten,?_,λ{w G ρ}=>H' z5 _,?_⟩
 .simp_all
 .have hle:=by
   have:n.toNat<=1099511627776/bt:=axs;have:=Nat.mul_le_mul_left bt this;exact aAs this (Nat.mul_div_le _ _)
  have atU:=aCj h0;have A3:=by
   have:n.toNat<=bt*n.toNat:=Nat.le_mul_of_pos_left _ iu;omega
  have s3:=wrap_small h0 axs;have HE:∀bS:World,(typeInfo e).run P bS=.ok i bS:=λbS=>by simp[typeInfo,azP,g']
  have Bd:(asInt (.int k n)).run P w=.ok n w:=by simp[asInt,asIntOf]
  have hmul:((bt:Int))*n<=1099511627776:=axv;have s4:¬(n<0\/(bt:Int)*n>2^48):=axs;unfold Instr.makeSlice;simp only[azP,eB hu,azS,Bd,azU,HE,oq,s3];have ay:(decide (n<0)||decide ((bt:Int)*n>2^48)||decide (n<0)||decide (n>n))=false:=axu;simp only[aAw,az4,azP,azU,azS,run_askRoom,jE az,rr g' z2,aBg,newRow,aB1];by_cases afn:n.toNat*sz=0
  .have:n.toNat=0:=by
    rcases Nat.mul_eq_zero.1 afn with h|h
    all_goals omega
   grind
  .grind[Oy]
theorem afo{d t e sz bt b2:Nat}{z:List ag}{l c:Operand}{bC:O}(p:bV n0 gl nt w G ρ lam a st)(aY:o.dst=some d)(bp:d<nt)(bu:o.op=.makeSlice t l c)(qj:a.eval c=a.eval l)(aH:bP P 0 l=some bC)
  (hu:P.underlying t=some (.slice e)) (az:dp P e=some sz) (gq:0<sz) (aQ:zeros P e=some z) (ko:bytesOf P e=some bt) (iu:0<bt) (lN:b2=1099511627776/bt)
  (hs:step (bz P gl) gl (.mk d sz z bC b2) st K):o.wp P a w (cy n0 gl nt w G ρ K) Q:=by
 obtain⟨e6,h1⟩:=dC aH p.rel;simp[step]at hs;split at hs
 .rename_i k n aj;rw[aj]at h1;have hv:=h1.int;obtain⟨aE,hs⟩:=hs;simp at aE;subst lN;obtain⟨vs,v1,v2,v3⟩:=Oz (P:=P) (w:=w) (k:=k) hu az gq aQ ko iu aE.1 aE.2;have fC:(execOp a.eval o).run P w=.ok (.value (.slice (some ⟨w.heap.size,0,none⟩) n.toNat n.toNat)) {w with heap:=w.heap.push (.cells ⟨vs⟩ e)}:=aya;have hw:ga w (.cells ⟨vs⟩ e) {w with heap:=w.heap.push (.cells ⟨vs⟩ e)}:=⟨rfl,rfl,rfl⟩;have rH:(ρ++[w.heap.size+1])[st.s.length]?=some (w.heap.size+1):=axS;refine fP fC (jT p.eC (put_defers _ _ _) axB _ (ρ++[w.heap.size+1]) lam _ ?_ (hw.good p.rel.lt (L0:=.obj st.s.length) (n0:=0) axt) (λi b h=>hE i _ h) hs);rw[aY];refine p.rel.uB hw (az' bp p.sz) ?_ ?_
  .exact dJ.bR (da.refl _ _) (λi b h=>hE i _ h) (λb n h=>⟨rfl,h⟩) (λj b n h=>⟨rfl,h⟩) (wg (LC:=.dx st.s.length) hw v2)
  .refine .aS _ _ _ _ _ _ _ rH (azI _) ⟨_,e,(0,0),hw.new,?_⟩;simp_all
 .exact hs.elim
def aAB:=@Option.bind_eq_bind
def azV:=@Option.bind_eq_some_iff
def aB3:=@Nat.eq_zero_or_pos
def aCp:=@Bool.false_and
theorem Ib{v:Value}{L:Loc}(h:v=.tuple #[]):de w G ρ lam L v (.tuple []):=by
 subst h;exact .ck (.tuple [] [] .nil)
theorem Ic{d:Option Nat}{v:Value}{x:ag}{w':World}(p:bV n0 gl nt w G ρ lam a st)(aY:o.dst=d)(bp:∀t,d=some t->t<nt)(aw:(execOp a.eval o).run P w=.ok (.value v) w')
  {aU:af} (h:bX gl w' G ρ lam a.tmps aU) (aE:Good w G w' G) (hv:∀L,de w' G ρ lam L v x) (ao:K (aU.dA d x)):o.wp P a w (cy n0 gl nt w G ρ K) Q:=
 fP aw (D' h p.eC p.sz bp aE (λ_ _ h=>h) aY (λ_ _=>hv _) ao)
theorem afp{v:Value}{x:ag}(h:um v x=true):v.oneCell'=true:=by
 unfold um at h;split at h<;>first|rfl|grind
theorem afq{v:Value}{x:ag}{L:Loc}{t off n:Nat}{ah:Bool}(h:de w G ρ lam L v x)(iw:vN x=true)(hle:off+n<=(cellsOf x).length)(aQ:dp P t=some n)(dK:kf P t=some ah)(jX:ah=false->n=1):
  ∃(V:Array Value) (u:Value),v=.agg V/\(part t V off).run P w=.ok u w/\dc w G ρ u (valOf (cellsOf x) off n ah):=by
 have Hw:∃vs,v=.agg ⟨vs⟩/\cf w G ρ vs (cellsOf x):=by
  cases x<;>simp[vN]at iw;case agg cs=>
   have cc:=h;cases cc;rename_i vs h;exact⟨vs,rfl,h⟩
  case d y=>
   cases y<;>simp at iw;have cc:=h.iq;cases cc;rename_i vs h;exact⟨vs,rfl,h.Dx⟩
 obtain⟨vs,hv,bF⟩:=Hw;have aH:=bF.length;cases ah with
 |true=>
  refine⟨⟨vs⟩,.agg ((⟨vs⟩:Array Value).extract off (off+n)),hv,?_,?_⟩
  .simp_all[part,vX,jE]
  .have:(⟨vs⟩:Array Value).extract off (off+n)=⟨(vs.drop off).take n⟩:=by
    simp
   rw[this];exact Dy (LC:=λ_=>.res) axv λj v y av aZ=>.ck (((bF.drop _).take _).get av aZ)
 |false=>
  obtain rfl:n=1:=jX rfl;have aB:off<vs.length:=axs;have fE:=axs;refine⟨⟨vs⟩,vs[off],hv,?_,?_⟩
  .simp_all[part,vX]
  .have ak:(cellsOf x)[off]?=some ((cellsOf x).getD off .undef):=by simp_all
   exact(dr.ck (L:=.res) (bF.get (azQ aB) ak)).snap
theorem afr{d:Option Nat}{t e t1:Nat}{x:Operand}{bx:O}{z:List ag}(p:bV n0 gl nt w G ρ lam a st)(aY:o.dst=d)(bp:∀t,d=some t->t<nt)
  (bu:o.op=.call {callee:=.builtin .clear,args:= #[x],argTypes:= #[t]}) (ak:bP P t1 x=some bx) (hu:P.underlying t=some (.slice e)) (aQ:zeros P e=some z)
  (hs:step (bz P gl) gl (.n8 d bx z) st K):o.wp P a w (cy n0 gl nt w G ρ K) Q:=by
 obtain⟨hF,ec,g',z2,z3,z4,z5⟩:=nG aQ;obtain⟨AG,kN⟩:=dC ak p.rel;have fC:∀{w1:World},(Builtin.clear_ #[t] o.type #[a.eval x]).run P w=.ok (.tuple #[]) w1->(execOp a.eval o).run P w=.ok (.value (.tuple #[])) w1:=by
  intro w1 h;simp[execOp,bu,resolve,azP,azU,azS,invoke,builtin,aBi,aAh,aA8,h]
 have yy:∀cx n c,a.eval x=.slice cx n c->n=0->(Builtin.clear_ #[t] o.type #[a.eval x]).run P w=.ok (.tuple #[]) w:=by
  intro cx n c hv az;subst az;rw[hv];unfold Builtin.clear_;cases cx<;>simp[aAZ,aBI,azP,eB hu,azS,azU]
 simp only[step]at hs;split at hs
 .rename_i i off len cap sz aj;rw[aj]at kN;have hA:=kN;generalize hv:a.eval x=v at hA;cases hA with
  |aS _ _ _ _ et _ b cM hR rl=>
   split at hs
   .rename_i cs aD;obtain⟨aE,hs⟩:=hs;simp only[azH]at aE;have OA:=azR aE.1;have hle:=azW aE.2;by_cases pf:len=0
    .subst pf;simp at hs;rw[show putCells cs off []=cs from rfl,Hv aD]at hs;exact Ic p aY bp (fC (yy _ _ _ hv rfl)) p.rel (Good.refl p.rel.lt) (λ_=>Ib rfl) hs
    .have fw:=by have:=p.rel.ob.at cM;rwa [aD]at this
     have aw:cf w G ρ (List.replicate len ec.cells.toList).flatten (List.replicate len z).flatten:=H' z5 len;obtain⟨bU,b4⟩:=p.rel.AK (off:=off) cM aD aw;obtain⟨c,E,fz,h1,h2,av,aZ,bW⟩:=fw;have yh:(List.replicate len ec.cells.toList).flatten.length=len*sz:=axu;have jX:∀u,u∈(List.replicate len ec.cells.toList).flatten->u.oneCell'=true:=by
      intro u hu;simp at hu;obtain⟨l,⟨_,rfl⟩,hu⟩:=hu;exact afs aQ g' z2 u hu
     have sV:=aBk (P:=P) b off (List.replicate len ec.cells.toList).flatten 0 w
      (λj aL=>by
       rw[aAj,cell_of_block h1];grind)
      (λj aL=>by
       rw[aAj,uy h1];have:off+j<c.size:=axs;simp_all)
      jX
     have mU:(Builtin.zeroCells ec.cells len).toList=(List.replicate len ec.cells.toList).flatten:=aft len;have dy:(Builtin.clear_ #[t] o.type #[a.eval x]).run P w=.ok (.tuple #[]) (w.setCells b off (List.replicate len ec.cells.toList).flatten):=by
      rw[hv];unfold Builtin.clear_;obtain⟨n,rfl⟩:=Nat.exists_eq_succ_of_ne_zero pf;simp[aAZ,aBI,azP,eB hu,azS,azU,rr g' z2,mU,sV]
     grind[Ic,Ib]
   .exact hs.elim
 .split at hs
  .rename_i sz aj;obtain⟨cx,cap,v1,_,_⟩:=(kN.gK aj).slice;exact Ic p aY bp (fC (yy _ _ _ v1 rfl)) p.rel (Good.refl p.rel.lt) (λ_=>Ib rfl) hs
  .exact hs.elim
where
 afs {e:Nat} {z:List ag} {i:TypeInfo} {ec:Value} (aQ:zeros P e=some z) (g':P.info? e=some i) (z2:i.zero=some ec):∀u,u∈ec.cells.toList->u.oneCell'=true:=by
  intro u hu;unfold zeros at aQ;simp only[aAB,azV]at aQ;obtain⟨cs,h1,iI,h2,z',av,aZ⟩:=aQ;rw[g']at h2;simp at h2;subst h2;rw[z2]at av;simp at av;subst av;split at aZ
  .rename_i ay;simp only[azH,azN,azX]at ay;obtain⟨⟨Ea,_⟩,yH⟩:=ay;obtain⟨j,aL,rfl⟩:=aA9 hu;have lO:j<cs.length:=axv;exact afp (yH (ec.cells.toList[j],cs[j]) (List.mem_iff_getElem?.2 ⟨j,axv⟩))
  simp_all
 aft {c:Array Value} (n:Nat):(Builtin.zeroCells c n).toList=(List.replicate n c.toList).flatten:=by
  unfold Builtin.zeroCells;rcases aB3 c.size with h0|h0
  all_goals simp_all[Oy]
theorem afu{d t len e n t1 t2:Nat}{ah:Bool}{x i:Operand}{bx iI:O}(p:bV n0 gl nt w G ρ lam a st)(aY:o.dst=some d)(bp:d<nt)(bu:o.op=.index t x i)(ak:bP P t1 x=some bx)(hi:bP P t2 i=some iI)
  (hu:P.underlying t=some (.array len e)) (az:dp P e=some n) (dK:kf P e=some ah) (afv:ah=false->n=1)
  (hs:step (bz P gl) gl (.vM d bx iI len n ah) st K):o.wp P a w (cy n0 gl nt w G ρ K) Q:=by
 obtain⟨e6,h1⟩:=dC ak p.rel;obtain⟨iX,h2⟩:=dC hi p.rel;simp[step]at hs;split at hs
 .rename_i k m aD;rw[aD]at h2;have v2:=h2.int;obtain⟨aE,hs⟩:=hs;simp only[azH,azN]at aE;obtain⟨⟨⟨lg,ff⟩,mj⟩,afw⟩:=aE;have hle:=azW afw;obtain⟨V,v,b8,dy,dt⟩:=afq (P:=P) (off:=m.toNat*n) h1 mj hle az dK afv;refine p.value aY bp (v:=v) ?_ (.ck dt) hs;simp_all[execOp,Instr.index,asIntOf,eB,jE]
 .exact hs.elim
theorem afx{d t e:Nat}{fs:Array Field}(p:bV n0 gl nt w G ρ lam a st)(aY:o.dst=some d)(bp:d<nt)(bu:o.op=.alloc t)(atV:P.underlying t=some (.struct fs))
  (aQ:(P.info? t).bind (·.zero)=some (.agg ⟨[.pointer none,.slice none 0 0]⟩)) (hs:step (bz P gl) gl (.ak d t e) st K):o.wp P a w (cy n0 gl nt w G ρ K) Q:=by
 cases hi:P.info? t with
 |none=>simp_all
 |some i=>
  rw[hi]at aQ;have aw:(execOp a.eval o).run P w=.ok (.value (.pointer (some ⟨w.heap.size,0,none⟩))) {w with heap:=w.heap.push (.cells #[.pointer none,.slice none 0 0] t)}:=by
   simp[execOp,bu,Instr.alloc,newVar,newRow,azP,rr hi aQ,azS,aB1,azU];rfl
  have hw:ga w (.cells #[.pointer none,.slice none 0 0] t) {w with heap:=w.heap.push (.cells #[.pointer none,.slice none 0 0] t)}:=⟨rfl,rfl,rfl⟩;refine fP aw (jT p.eC (put_defers _ _ _) axB _ (ρ++[w.heap.size+1]) lam _ ?_ (hw.good p.rel.lt (L0:=.obj st.s.length) (n0:=0) axt) hE hs);rw[aY];have rz:(ρ++[w.heap.size+1])[st.s.length]?=some (w.heap.size+1):=axS;exact p.rel.uB hw (az' bp p.sz) ⟨.pointer none,.slice none 0 0,hw.new,axO,.inl rfl,.inl ⟨rfl,rfl⟩⟩ (.ptr _ _ _ rz)
theorem afy{d t t1 e5 lI:Nat}{x:Operand}{bx:O}(p:bV n0 gl nt w G ρ lam a st)(aY:o.dst=some d)(bp:d<nt)(bu:o.op=.range t x)(ak:bP P t1 x=some bx)(hu:P.underlying t=some (.map e5 lI))
  (hs:step (bz P gl) gl (.rg d bx) st K):o.wp P a w (cy n0 gl nt w G ρ K) Q:=by
 obtain⟨e6,h1⟩:=dC ak p.rel;have rz:(ρ++[w.heap.size+1])[st.s.length]?=some (w.heap.size+1):=axS;simp only[step]at hs;split at hs
 .rename_i aj;rw[aj]at h1;have cc:=h1.iq;generalize hv:a.eval x=v at cc;cases cc;have aw:(execOp a.eval o).run P w=.ok (.value (.pointer (some ⟨w.heap.size,0,none⟩))) {w with heap:=w.heap.push (.mapIter none 0 #[] 0)}:=by
   simp_all[execOp,Instr.range,eB]
  have hw:ga w (.mapIter none 0 #[] 0) {w with heap:=w.heap.push (.mapIter none 0 #[] 0)}:=⟨rfl,rfl,rfl⟩;refine fP aw (jT p.eC (put_defers _ _ _) axB _ (ρ++[w.heap.size+1]) lam _ ?_ (hw.good p.rel.lt (L0:=.obj st.s.length) (n0:=0) axt) hE hs);rw[aY];exact p.rel.uB hw (az' bp p.sz) (.inl ⟨0,0,hw.new,axO,rfl⟩) (.ptr _ _ _ rz)
 .rename_i i aj;rw[aj]at h1;have cc:=h1;generalize hv:a.eval x=v at cc;cases cc with
  |map _ b aq=>
   by_cases hm:∃es clock,w.heap[b]?=some (.map es clock)
   .obtain⟨es,clock,hm⟩:=hm;have jW:(getObj b).run P w=.ok (.map es clock) w:=ayd;have aw:(execOp a.eval o).run P w=.ok (.value (.pointer (some ⟨w.heap.size,0,none⟩))) {w with heap:=w.heap.push (.mapIter (some b) clock #[] clock)}:=by
     simp_all[execOp,Instr.range,eB]
    have hw:ga w (.mapIter (some b) clock #[] clock) {w with heap:=w.heap.push (.mapIter (some b) clock #[] clock)}:=⟨rfl,rfl,rfl⟩;refine fP aw (jT p.eC (put_defers _ _ _) axB _ (ρ++[w.heap.size+1]) lam _ ?_ (hw.good p.rel.lt (L0:=.obj st.s.length) (n0:=0) axt) hE hs.2);rw[aY];exact p.rel.uB hw (az' bp p.sz) (.inr ⟨i,b,clock,clock,rfl,hE _ _ aq,hw.new,axO⟩) (.ptr _ _ _ rz)
   .obtain⟨h2,_⟩:=hs;have dV:=p.rel.ob.at aq;split at h2
    .rename_i es he;rw[he]at dV;obtain⟨mes,clock,m1,_⟩:=dV;simp_all
    simp_all
 .exact hs.elim
theorem afz{d t1:Nat}{x:Operand}{bx:O}(p:bV n0 gl nt w G ρ lam a st)(aY:o.dst=some d)(bp:d<nt)(bu:o.op=.next x false)(ak:bP P t1 x=some bx)
  (hs:step (bz P gl) gl (.k7 d bx) st K):o.wp P a w (cy n0 gl nt w G ρ K) Q:=by
 obtain⟨e6,h1⟩:=dC ak p.rel;have dt:de w G ρ lam (.slot d) (.tuple #[.bool false]) (.tuple [.d (.bool false)]):=.ck (.tuple [.bool false] _ (.cons _ _ _ _ (.d _ _ (.bool false)) .nil));simp only[step]at hs;split at hs
 .rename_i j aj;rw[aj]at h1;have cc:=h1;generalize hv:a.eval x=v at cc;cases cc with
  |ptr _ _ b aq=>
   have dV:=p.rel.ob.at aq;split at hs
   .rename_i aD;rw[aD]at dV;rcases dV with⟨since,last,m1,m2,_⟩|⟨k,aR,since,last,h,_⟩
    .have jW:(getObj b).run P w=.ok (.mapIter none since #[] last) w:=by grind[getObj,Sem.run]
     refine p.value aY bp (v:=.tuple #[.bool false]) ?_ dt hs;simp[execOp,bu,hv,Instr.next,azP,jW,azS,azU]
    simp_all
   .rename_i i aD;rw[aD]at dV;rcases dV with⟨since,last,m1,m2,h⟩|⟨k,aR,since,last,au,dP,m1,m2⟩
    .grind
    .simp at au;subst au;split at hs
     .rename_i aW;have OB:=p.rel.ob.at dP;rw[aW]at OB;obtain⟨mes,clock,m3,m4,m5,m6⟩:=OB;have atW:mes= #[]:=axu;have jW:(getObj b).run P w=.ok (.mapIter (some aR) since #[] last) w:=ayd;have afA:(getObj aR).run P w=.ok (.map #[] clock) w:=ayd;refine p.value aY bp (v:=.tuple #[.bool false]) ?_ dt hs;have aw:(execOp a.eval o).run P w=.ok (.value (.tuple #[.bool false])) w:=by
       simp only[execOp,bu,hv,Instr.next,azP,jW,afA,azS,azU,Array.isEmpty_empty,Bool.not_true,aCp,Bool.and_false,aAw,az4,Array.filter_empty,Array.map_empty,if_true,Array.append_empty,run_choose];rfl
      omega
     .exact hs.elim
   .exact hs.elim
 .exact hs.elim
def aBL:=@List.mapM_cons
def aB4:=@Option.ite_none_right_eq_some
theorem axG(h:p:=by assumption):p:=h
theorem ayC(h:p:=by grind[kg,Nat.blt_eq]):p:=h
theorem s5{t e:Nat}(h:vS P t=some e):P.underlying t=some (.slice e):=by
 grind[vS]
theorem OC{t:Nat}{xs:List Operand}{ys:List O}(h:xs.mapM (bP P t)=some ys):hD (λx y=>∃t,bP P t x=some y) xs ys:=
 (ru h).imp λ_ _ h=>⟨t,h⟩
theorem Ie{f:Operand->Nat->Nat}:∀{xs:List Operand} {k:Nat} {ys:List O},(xs.zipIdx k).mapM (λq=>bP P (f q.1 q.2) q.1)=some ys->hD (λx y=>∃t,bP P t x=some y) xs ys
 |[],_,ys,h=>by
  have:=ru h;cases this;exact .nil
 |x::xs,k,ys,h=>by
  have:=ru h;cases this with
  |@cons _ y _ ys h1 h2=>
   refine .cons ⟨_,h1⟩ (Ie (k:=k+1) (f:=f) ?_);exact OD h2
where
 OD {α β:Type} {f:α->Option β}:∀{l:List α} {bC:List β},hD (λx y=>f x=some y) l bC->l.mapM f=some bC
  |_,_,.nil=>axt
  |_,_,.cons h1 h2=>by simp[aBL,h1,OD h2]
theorem OE{x:Option Operand}(h:Dt x=true):∃y,x=some y/\∃k,a.eval y=.int k 0:=by
 unfold Dt at h;split at h
 .rename_i k n;simp at h;subst h;exact⟨_,rfl,k,rfl⟩
 simp_all
theorem afB{d t u:Nat}{op:BinOp}{x y:Operand}{bx y':O}{i:I}(p:bV n0 gl nt w G ρ lam a st)(aY:o.dst=some d)(bp:d<nt)(bu:o.op=.binOp op t x y u)(ak:bP P t x=some bx)(hy:bP P u y=some y')
  (h:(match (generalizing:=false) P.underlying t,op with
   |some .bool,.eql=>some (.eq d false false [0] bx y')
   |some .bool,.neq=>some (.eq d true false [0] bx y')
   |some (.struct _),.eql=>if P.eqGuardType P.depth t=false then(kinds P 10 t).map λks=>.eq d false true ks bx y' else none
   |some (.struct _),.neq=>if P.eqGuardType P.depth t=false then(kinds P 10 t).map λks=>.eq d true true ks bx y' else none
   |some (.int _),_=>some (.bi d op bx y')
   |some .string,_=>some (.bi d op bx y')
   |some u,.eql=>(x3 u y).map λk=>.mb d false k bx
   |some u,.neq=>(x3 u y).map λk=>.mb d true k bx
   |_,_=>none)=some i) (hs:step (bz P gl) gl i st K):o.wp P a w (cy n0 gl nt w G ρ K) Q:=by
 split at h
 .rename_i hu;simp at h;subst h;exact DG (neg:=false) p aY bp axG ak hy ax3 ax4 axt (λ_=>hu) hs
 .rename_i hu;simp at h;subst h;exact DG (neg:=true) p aY bp axG ak hy ax3 ax4 axt (λ_=>hu) hs
 .grind[Option.map_eq_some_iff,DG,hd]
 .grind[Option.map_eq_some_iff,DG,hd]
 .grind[Nj]
 .grind[Nj]
 all_goals grind[Option.map_eq_some_iff,aeh]
theorem afC{d s t:Nat}{x:Operand}{bx:O}{i:I}(p:bV n0 gl nt w G ρ lam a st)(aY:o.dst=some d)(bp:d<nt)(bu:o.op=.convert s t x)(ak:bP P s x=some bx)
  (h:(match P.underlying s,P.underlying t with
   |some (.int _),some (.int k)=>some (.ci d k bx)
   |some .string,some .string=>some (.cs d bx)
   |some .string,some (.slice e)=>match P.underlying e with
    |some (.int .u8)=>if dp P e=some 1 then some (.h3 d bx)else none
    |_=>none
   |some (.slice e),some .string=>match P.underlying e with
    |some (.int .u8)=>if dp P e=some 1 then some (.bs d bx)else none
    |_=>none
   |_,_=>none)=some i) (hs:step (bz P gl) gl i st K):o.wp P a w (cy n0 gl nt w G ρ K) Q:=by
 split at h
 .grind[adu]
 .rename_i h1 h2;simp at h;subst h;simp[step]at hs;split at hs
  .rename_i l he;exact adv p aY bp bu ak h1 h2 he (by simp_all[step,snap])
  .exact hs.elim
 .grind[aeS]
 all_goals grind[aeT]
theorem OG{xs:Array Operand}{x:Operand}(h:xs.toList=[x]):xs= #[x]:=aBx h
theorem Eb{xs:Array Operand}{x y:Operand}(h:xs.toList=[x,y]):xs= #[x,y]:=aBx h
theorem OH{xs:Array TypeId}{x:TypeId}(h:xs.toList=[x]):xs= #[x]:=aBx h
theorem OI{xs:Array TypeId}{x y:TypeId}(h:xs.toList=[x,y]):xs= #[x,y]:=aBx h
theorem Ig{an:eo}{m:fl}{i:I}(p:bV n0 gl nt w G ρ lam a st)(h:jc P an m o=some i)(a6:kg nt o=true)
  (hs:step (bz P gl) gl i st K):o.wp P a w (cy n0 gl nt w G ρ K) Q:=by
 have bp:∀d,o.dst=some d->d<nt:=ayC;unfold jc at h;split at h;all_goals (try simp only[aAB,azV,aAt,azJ]at h)
 case h_1=>
  grind[adn,Option.map_eq_some_iff,aeE,adl]
 case h_2=>
  grind[aeN,Nh]
 case h_3=>
  grind[adp]
 case h_4=>
  rename_i e d bu aY;obtain⟨z,aQ,h⟩:=h;split at h
  .unfold x4 at h;grind[afx]
  grind[adU,adT]
 case h_5=>
  grind[adX,adW]
 case h_6=>
  rename_i t ps d bu aY;obtain⟨z,aQ,dL,aT,h⟩:=h;split at h
  .rename_i Ec;simp at h;subst h;have ev:∃d,P.underlying t=some d/\d.isRow=true:=by
    cases hu:P.underlying t with
    |none=>simp_all
    |some d=>simp_all
   refine aef p aY (bp _ aY) bu aQ ev ((ru aT).imp ?_) hs;grind[Option.bind_eq_some_iff]
  simp_all
 case h_7=>
  rename_i t len ps d bu aY;obtain⟨e,he,n,az,z,aQ,h⟩:=h;split at h
  .rename_i aE;simp at aE;simp[azV,azJ]at h;obtain⟨ys,hy,rfl⟩:=h;have aT:hD (λx y=>∃t,bP P t x=some y) (ps.toList.map (·.2)) ys:=by
    have h2:=ru hy;clear hy hs aE bu;generalize ps.toList=l at h2;induction h2 with
    |nil=>exact .nil
    |cons h1 _ ih=>exact .cons ⟨_,h1⟩ ih
   split at hs
   .exact afm p aY (bp _ aY) bu (s5 he) az aE.2 aQ aE.1.1 aE.1.2 aT hs
   .exact aek p aY (bp _ aY) bu (s5 he) az aE.2 aQ aE.1.1 aE.1.2 aT hs
  simp_all
 case h_8=>
  rename_i t x d bu aY;obtain⟨n,az,ah,dK,bx,ak,h⟩:=h;split at h
  .rename_i h1;have h1:ah=false->n=1:=axv;split at h<;>(simp only[azJ]at h;subst h)
   .grind[adY]
   .split at hs
    .rename_i afD;simp at afD;grind[aeM]
    grind[ad0]
   .rename_i he _;simp at he;grind[ad7]
   .rename_i he _;simp at he;grind[ad8]
  simp_all
 case h_9=>
  grind[ad5,ad6]
 case h_10=>
  grind[adO]
 case h_11=>
  rename_i op t x y u d bu aY;obtain⟨bx,ak,y',hy,h⟩:=h;exact afB p aY (bp _ aY) bu ak hy h hs
 case h_12=>
  grind[adt]
 case h_13=>
  grind[afC]
 case h_14=>
  rename_i f xs cs d bu aY;obtain⟨ys,hy,zs,aQ,rfl⟩:=h;exact aeg p aY (bp _ aY) bu (OC hy) (OC aQ) hs
 case h_15=>
  grind[aeY]
 case h_16=>
  rename_i t x lo hi mx d bu aY;obtain⟨bx,ak,h⟩:=h;split at h
  .grind[Option.bind_eq_some_iff,Option.isNone_iff_eq_none,adD]
  .rename_i e hu;simp only[azV]at h;obtain⟨n,az,h⟩:=h;split at h
   .rename_i aE;simp at aE;simp at h;subst h;obtain⟨⟨nM,Ih⟩,afE⟩:=aE;obtain⟨h1,rfl,bN,aj⟩:=OE (a:=a) Ih;obtain⟨h2,rfl,cz,aD⟩:=OE (a:=a) afE;subst nM;exact adK p aY (bp _ aY) bu ak ⟨bN,aj⟩ ⟨cz,aD⟩ hu az hs
   .split at h
    .grind[Option.map_eq_some_iff,aeP]
    split at h
    .grind
    .rename_i Hp;simp[azV,azJ]at h;obtain⟨oj,aH,je,hh,Ho,hm,rfl⟩:=h;refine adG p aY (bp _ aY) bu ak aH hh hm ?_ hu az hs;simp_all
  simp_all
 case h_17=>
  rename_i t x f d bu aY;split at h
  .rename_i fs hu;split at h
   .rename_i gN bm;split at h
    .rename_i aQ;simp at h;obtain⟨bx,ak,rfl⟩:=h;cases o6:dp P gN.type with
     |none=>rw[o6]at aQ;simp at aQ
     |some n=>
      rw[o6]at aQ;exact adM p aY (bp _ aY) bu ak hu bm o6 (by simpa using aQ) hs
    .simp at h
   .simp at h
  simp_all
 case h_18=>
  rename_i t x f d bu aY;split at h
  .rename_i fs hu;split at h
   .rename_i gN bm;simp only[azV]at h;obtain⟨n,az,ah,dK,bx,ak,h⟩:=h;split at h
    .rename_i h1;simp at h;subst h;exact ad' p aY (bp _ aY) bu ak hu bm az dK (by intro h;subst h;simpa using h1) hs
    .simp at h
   .simp at h
  .simp at h
 case h_19=>
  rename_i t x y d bu aY;obtain⟨bx,ak,y',hy,h⟩:=h;split at h
  .rename_i e hu;simp only[azV]at h;obtain⟨n,az,h⟩:=h;split at h
   .rename_i hp;simp at h;subst h;exact adE p aY (bp _ aY) bu ak hy hu az (by simpa using hp) hs
   .simp at h
  .rename_i len e hu;simp only[azV]at h;obtain⟨n,az,h⟩:=h;split at h
   .simp at h;subst h;exact adN p aY (bp _ aY) bu ak hy hu az hs
   .simp at h
  .simp at h
 case h_20=>
  rename_i t x y d bu aY;obtain⟨bx,ak,y',hy,h⟩:=h;split at h
  .rename_i hu;simp at h;subst h;exact adC p aY (bp _ aY) bu ak hy hu hs
  .rename_i len e hu;simp only[azV]at h;obtain⟨n,az,ah,dK,h⟩:=h;split at h
   .rename_i h1;simp at h;subst h;exact afu p aY (bp _ aY) bu ak hy hu az dK (by intro h;subst h;simpa using h1) hs
   .simp at h
  .simp at h
 case h_21=>
  rename_i t l c d bu aY;obtain⟨e,he,z,aQ,n,az,b,aq,h⟩:=h;split at h
  .rename_i aE;simp at aE;simp[azV,azJ]at h;obtain⟨bC,aH,rfl⟩:=h;have qj:a.eval c=a.eval l:=by
    have:=aE.1.1;unfold G7 at this;split at this
    .rw[azR this]
    .simp at this
   exact afo p aY (bp _ aY) bu qj aH (s5 he) az aE.1.2 aQ aq aE.2 rfl hs
  .simp at h
 case h_22=>
  rename_i t x k ok d bu aY;obtain⟨bx,ak,h⟩:=h;split at h
  .rename_i e5 lI hu;simp[azV,azJ]at h;obtain⟨k',au,z,aQ,ks,jU,rfl⟩:=h;exact ae0 p aY (bp _ aY) bu ak au hu aQ jU rfl hs
  .simp at h
 case h_23=>
  rename_i t x k v bu aY;obtain⟨bx,ak,h⟩:=h;split at h
  .rename_i e5 lI hu;simp[azV,azJ]at h;obtain⟨ks,jU,k',au,v',hv,rfl⟩:=h;exact ae7 p aY bu ak au hv hu jU rfl hs
  .simp at h
 case h_24=>
  rename_i t x d bu aY;split at h
  .rename_i e5 lI hu;simp at h;obtain⟨bx,ak,rfl⟩:=h;exact afy p aY (bp _ aY) bu ak hu hs
  .simp at h
 case h_25=>
  rename_i x d bu aY;obtain⟨bx,ak,rfl⟩:=h;exact afz p aY (bp _ aY) bu ak hs
 case h_26=>
  rename_i x j d bu aY;obtain⟨bx,ak,rfl⟩:=h;exact adL p aY (bp _ aY) bu ak hs
 case h_27=>
  rename_i c bu;split at h
  .rename_i f ay;simp only[azV]at h;obtain⟨ys,hy,h⟩:=h;have hy:=Ie (f:=λ_ i=>c.argTypes.getD i 0) hy;split at h
   .split at h
    .rename_i k x y d he aY _;simp[azJ]at h;subst h;generalize yI:c.args.toList=al at hy;cases hy with
     |cons h1 hy=>cases hy with
      |cons h2 hy=>
       cases hy;obtain⟨t1,h1⟩:=h1;obtain⟨t2,h2⟩:=h2;exact adQ p aY (bp _ aY) bu ay yI he h1 h2 hs
    .split at h
     .simp[azJ]at h;subst h;exact afk p rfl bp bu ay hy hs
     .simp[azJ]at h;subst h;exact Ou (t:=0) p rfl bp bu ay rfl hy hs
   .simp[azV,azJ]at h;obtain⟨s6,bm,rfl⟩:=h;exact Ou p rfl bp bu ay bm hy hs
  .rename_i ay;split at h
   .rename_i x t d h1 h2 aY;obtain⟨uF,ca,cC⟩:=c;replace h1:=OG h1;replace h2:=OH h2;simp only at ay;subst ay;replace h1:=h1;replace h2:=h2;subst h1 h2;split at h
    .rename_i hu;simp[aAt]at h;obtain⟨bx,ak,rfl⟩:=h;exact Ny (str:=true) p aY (bp _ aY) bu ak (by simpa using hu) hs
    .rename_i e hu;simp[aAt]at h;obtain⟨bx,ak,rfl⟩:=h;exact Ny (str:=false) p aY (bp _ aY) bu ak (by simpa using ⟨e,hu⟩) hs
    .simp at h
   .simp at h
  .rename_i ay;split at h
   .rename_i s x t u d h1 h2 aY;obtain⟨uF,ca,cC⟩:=c;replace h1:=Eb h1;replace h2:=OI h2;simp only at ay;subst ay;replace h1:=h1;replace h2:=h2;subst h1 h2;simp only[azV]at h;obtain⟨e,he,n,az,b,aq,z,aQ,h⟩:=h;obtain⟨bx,ak,h⟩:=h;have key:∀desc,P.underlying u=some desc->sQ desc=true->(0<n/\0<b)->some (if dk d an.objs=true then I.mQ d s bx n (140737488355328/b)else if dk d an.uk=true then I.mR d s bx n (140737488355328/b)else I.ap d s bx n (140737488355328/b))=some i->o.wp P a w (cy n0 gl nt w G ρ K) Q:=by
     intro desc hu jG aE h;simp[azJ]at h;subst h;split at hs
     .exact HK (nw:=true) (rw:=false) p aY (bp _ aY) bu ak (s5 he) az aE.1 aq aE.2 rfl aQ hu jG hs
     split at hs
     .exact HK (nw:=true) (rw:=true) p aY (bp _ aY) bu ak (s5 he) az aE.1 aq aE.2 rfl aQ hu jG hs
     .exact HK (nw:=false) (rw:=false) p aY (bp _ aY) bu ak (s5 he) az aE.1 aq aE.2 rfl aQ hu jG hs
    split at h
    .rename_i hu;simp only[aBy,azH,azN,aB4]at h;exact key _ hu rfl h.1 h.2
    .rename_i hu;simp only[aBy,azH,azN,aB4]at h;exact key _ hu rfl h.1 h.2
    .simp at h
   .simp at h
  .rename_i ay;split at h
   .rename_i x t h1 h2;obtain⟨uF,ca,cC⟩:=c;replace h1:=OG h1;replace h2:=OH h2;simp only at ay;subst ay;replace h1:=h1;replace h2:=h2;subst h1 h2;split at h
    .rename_i e hu;simp only[azV,azJ]at h;obtain⟨z,aQ,bx,ak,rfl⟩:=h;exact afr p rfl bp bu ak hu aQ hs
    .simp at h
   .simp at h
  .rename_i ay;split at h
   .rename_i x y d h1 aY;obtain⟨uF,ca,cC⟩:=c;replace h1:=Eb h1;simp only at ay;subst ay;replace h1:=h1;subst h1;simp only[azV,azJ]at h;obtain⟨bx,ak,y',hy,rfl⟩:=h;exact Nz (lt:=false) p aY (bp _ aY) bu ak hy hs
   .simp at h
  .rename_i ay;split at h
   .rename_i x y d h1 aY;obtain⟨uF,ca,cC⟩:=c;replace h1:=Eb h1;simp only at ay;subst ay;replace h1:=h1;subst h1;simp only[azV,azJ]at h;obtain⟨bx,ak,y',hy,rfl⟩:=h;exact Nz (lt:=true) p aY (bp _ aY) bu ak hy hs
   .simp at h
  .simp at h
 grind
end
def az9:=@List.mem_singleton
theorem dr.afF{w:World}{G:bJ}{ρ:List Nat}{L:Loc}{v:Value}{sz:Nat}{l:List D}(h:dr w G ρ L v (.own sz l)):dc w G ρ v (.own sz l)\/∃uA d e0,ag.own sz l=.own uA (d::e0)/\lK w G L v uA (d::e0):=by
 cases l with
 |nil=>exact .inl h
 |cons d l=>exact .inr ⟨_,_,_,rfl,h⟩
section
variable {P:Program}{gl:Nat->List D}{n0 nt:Nat}{a:Act}{w w':World}{G G':bJ}{ρ ρ':List Nat}{lam lam':Nat->Option Nat}{st aU:af}{K:af->Prop}{o:Oper}{Q:Exit->Act->World->Prop}
theorem afG{d s b off cap sz:Nat}{tmps:Array Value}{c c':Array Value}{E:TypeId}{fz:Nat×Nat}{vs us:List Value}{q:D}{e0 l2:List D}{w1:World}(dt:bX gl w G ρ lam tmps st)
  (atX:(q::e0).length<=cap) (av:w.heap[b]?=some (.cells c E fz)) (aZ:∀j,j<c.size->¬(fz.1<=j/\j<fz.2)) (bW:off+cap*sz<=c.size) (dh:0<sz) (h6:G b=some (.slot s,off+(q::e0).length*sz)) (h7:∀d,d∈q::e0->d.cells.length=sz)
  (im:iK w G b off vs) (kL:cn w G vs ((q::e0).flatMap D.cells)) (ml:(q::e0).length+l2.length<=cap) (lf:cn w G us (l2.flatMap D.cells)) (jX:∀u,u∈us->u.oneCell'=true) (jh:∀d,d∈l2->d.cells.length=sz)
  (mn:w1.heap[b]?=some (.cells c' E fz)) (wu:c'.size=c.size) (sU:∀j,j<off+(q::e0).length*sz->c'[j]?=c[j]?) (rD:∀j v,us[j]?=some v->c'[off+(q::e0).length*sz+j]?=some v)
  (rE:∀cg,cg≠b->w1.heap[cg]?=w.heap[cg]?) (rF:w1.heap.size=w.heap.size) (afH:w1.os=w.os) (afI:w1.output=w.output):
  ∃G',bX gl w1 G' ρ lam tmps (st.set s .undef)/\Good w G w1 G'/\dr w1 G' ρ (.slot d) (.slice (some ⟨b,off,none⟩) ((q::e0).length+l2.length) cap) (.own sz (q::e0++l2)):=by
 have om:vs.length=(q::e0).length*sz:=axW;have sN:us.length=l2.length*sz:=axW;obtain⟨au,hT,di,AV⟩:=DS (w:=w) (L':=.slot d) (m':=off+((q::e0).length+l2.length)*sz) h6 axv av mn sU (aBw wu.symm) rE rF dt.lt axt axt afH afI;refine⟨_,⟨λt=> ?_,?_,dt.nb,dt.ob.bR au (λ_=>hT _ axt) (λ_ _=>hT _ axt),dt.eI.bR au,AV⟩,di,?_⟩
 .simp only[af.set,df];by_cases hr:t=s
  .simp[hr,if_true];exact .ck (.undef _)
  .simp only[hr,az4];exact(dt.aP t).bR au (λ_ _ h=>h) (λ_ _ h=>h) (hT _ axu)
 .intro t cs aq;obtain⟨aR,g1,g2⟩:=dt.bI t cs aq;exact⟨aR,g1,dJ.bR au (λ_ _ h=>h) (hT _ axt) (λj=>hT _ axt) g2⟩
 .have o8:(q::e0++l2).length=(q::e0).length+l2.length:=az6;refine⟨b,off,cap,c',E,fz,vs++us,axu,axu,mn,axu,axs,dh,?_,?_,?_,?_⟩
  .simp_all[hQ]
  .intro d a6;rcases aAu.1 (show d∈(q::e0)++l2 from a6)with h|h
   all_goals grind
  .intro j v hv;rcases aAv j vs.length with aL|aL
   .rw[aAp aL]at hv;exact au.1 _ _ _ (im j v hv)
   .rw[aAA aL]at hv;have lO:j-vs.length<us.length:=axv;refine⟨?_,?_,jX v (aAe hv)⟩
    .rw[cell_of_block mn];have:=rD (j-vs.length) v hv;grind
    .intro iX n dB;grind[hQ]
  .have:=(kL.keep au).append (lf.keep au);simp_all
theorem Ii{b:Nat}{us:List Value}{k:Nat}{w:World}{c:Array Value}{E:TypeId}{fz:Nat×Nat}(h:w.heap[b]?=some (.cells c E fz))(aH:k+us.length<=c.size):
  ∃c',(w.setCells b k us).heap[b]?=some (.cells c' E fz)/\c'.size=c.size/\(∀j,j<k\/k+us.length<=j->c'[j]?=c[j]?)/\(∀j v,us[j]?=some v->c'[k+j]?=some v)/\
   (∀cg,cg≠b->(w.setCells b k us).heap[cg]?=w.heap[cg]?)/\(w.setCells b k us).heap.size=w.heap.size:=by
 have:=AP (b:=b) (m:=0) (us:=us) (k:=k) h axs;simp_all
theorem OJ{b off t:Nat}{v:Value}{c:Array Value}{E:TypeId}{fz:Nat×Nat}(aj:w.heap[b]?=some (.cells c E fz))(aD:∀j,j<c.size->¬(fz.1<=j/\j<fz.2))(az:off+v.cells.size<=c.size)(aQ:dp P t=some v.cells.size)(h1:∀u∈v.cells.toList,u.oneCell'=true):
  (Instr.storeAt t (.pointer (some ⟨b,off,none⟩)) v).run P w=.ok () (w.setCells b off v.cells.toList):=by
 have:=aBk (P:=P) b off v.cells.toList 0 w
  (λj aL=>by
   rw[aAj,cell_of_block aj];grind)
  (λj aL=>by
   rw[aAj,uy aj];have aB:off+j<c.size:=axv;simp_all)
  h1
 simp_all[Instr.storeAt,Instr.sureAddr,storeVar,jE]
structure Ij(P:Program)(cY cU eH:Oper)(d s z i e sz b2:Nat)(y:O):Prop where
 ex:∃(t u ch bt:Nat) (rM:List ag) (x:Operand) (t3:Nat),cY.op=.call {callee:=.builtin .append,args:= #[.tmp s,.tmp z],argTypes:= #[t,u]}/\cY.dst=some d/\cY.guard=none/\
  cU.op=.indexAddr t (.tmp d) (.tmp i)/\cU.dst=some e/\cU.guard=none/\eH.op=.store ch (.tmp e) x/\eH.dst=none/\eH.guard=none/\
  P.underlying t=some (.slice ch)/\P.underlying u=some (.slice ch)/\dp P ch=some sz/\bytesOf P ch=some bt/\zeros P ch=some rM/\bP P t3 x=some y/\0<sz/\0<bt/\b2=140737488355328/bt/\
  d≠i/\e≠d/\e≠i/\(∀q,y=.t q->q≠e/\q≠d)
theorem uG{an:eo}{cY cU eH:Oper}{d e:Nat}{ins:I}(h:Aw P an cY cU eH=some (d,ins,e)):∃s z i y sz b2,ins=.kF d s z i y sz b2/\Ij P cY cU eH d s z i e sz b2 y:=by
 unfold Aw at h;split at h
 .rename_i c d0 t2 d2 i aD t3 aW x h1 h2 av aZ bW dh;split at h
  .rename_i s z t u ay br aC;simp only[aAB,azV]at h;obtain⟨ch,HT,atY,afJ,n,az,b,aq,rM,Ed,y,hy,h⟩:=h;split at h
   .rename_i aE;obtain⟨rfl,rfl,rfl⟩:=h;simp at aE;obtain⟨⟨⟨⟨⟨⟨⟨⟨⟨⟨⟨⟨⟨⟨⟨g1,g2⟩,g3⟩,g4⟩,g5⟩,g6⟩,g7⟩,g8⟩,g9⟩,g10⟩,g11⟩,g12⟩,g13⟩,g14⟩,g15⟩,g16⟩:=aE;subst g1 g2 g3 g4 g5;refine⟨s,z,i,y,n,_,rfl,⟨t2,u,t3,b,rM,x,t3,?_,h2,g14,av,aZ,g15,bW,dh,g16,s5 HT,s5 afJ,az,aq,Ed,hy,axs,g13,rfl,g6,g7,?_,?_⟩⟩
    .obtain⟨uF,ca,cC⟩:=c;grind[Eb,OI]
    .rintro rfl;simp_all[dk]
    .intro q aT;constructor
     .rintro rfl;simp_all[O.slots,dk]
     .rintro rfl;simp_all[O.slots,dk]
   simp_all
  simp_all
 simp_all
def OL(P:Program)(gl:Nat->List D)(w:World)(G:bJ)(ρ:List Nat)(lam:Nat->Option Nat)(a:Act)(st:af)(K:af->Prop)(cY cU eH:Oper)(d s i e:Nat):Prop:=
  ∃(v1 v2:Value) (w1:World) (b pos:Nat) (us:List Value) (xo:Operand) (b7:ag) (G':bJ) (n:Nat) (c1:Array Value) (E:TypeId) (fz:Nat×Nat),eH.op.operands.toList=[.tmp e,xo]/\
   (execOp a.eval cY).run P w=.ok (.value v1) w1/\
   (∀(a':Act) (w':World),a'.tmps.getD d undef=v1->a'.tmps.getD i undef=a.tmps.getD i undef->(execOp a'.eval cU).run P w'=.ok (.value v2) w')/\
   (∀(a':Act) (w':World),a'.tmps.getD e undef=v2->a'.eval xo=a.eval xo->w'.heap[b]?=some (.cells c1 E fz)->(execOp a'.eval eH).run P w'=.ok .skip (w'.setCells b pos us))/\
   w1.heap[b]?=some (.cells c1 E fz)/\pos+us.length<=c1.size/\G' b=some (.slot d,n)/\
   bX gl (w1.setCells b pos us) G' ρ lam a.tmps (st.set s .undef)/\Good w G (w1.setCells b pos us) G'/\de (w1.setCells b pos us) G' ρ lam (.slot d) v1 b7/\K ((st.set s .undef).set d b7)
theorem Ee{cY cU eH:Oper}{d s z i e sz b2:Nat}{y:O}(p:bV n0 gl nt w G ρ lam a st)(ak:Ij P cY cU eH d s z i e sz b2 y)(hs:step (bz P gl) gl (.kF d s z i y sz b2) st K):
  OL P gl w G ρ lam a st K cY cU eH d s i e:=by
 obtain⟨t,u,ch,bt,rM,x,t3,q1,bK,cI,ep,gR,jx,ou,pg,qs,hu,qg,cm,ko,Ed,hy,gq,iu,lN,kq,jF,uH,n4⟩:=ak.ex;obtain⟨hF,ec,hi,nI,rC,gu,_⟩:=nG Ed;have oq:hF.bytes=bt:=ayb;have wq:ec.cells.size=sz:=axX;simp[step]at hs;split at hs
 .rename_i ej l dw afK k n kH aj aD aW bQ;obtain⟨aE,hs⟩:=hs;simp only[azH,azN]at aE;obtain⟨⟨⟨⟨⟨g1,g2⟩,g3⟩,g4⟩,g5⟩,g6⟩:=aE;obtain rfl:ej=sz:=azR g1;obtain rfl:dw=ej:=azR g2;have g4:=azW g4;have g5:=azR g5;obtain⟨AG,kN⟩:=dC hy p.rel;have Ik:=kN.hl bQ;have Il:=Ik.NM;have qt:(a.eval x).cells.size=dw:=by grind[Array.length_toList,cn.length]
  have OM:(a.eval x).cells.toList.length=dw:=axs;have Im:=by
   have:=NP (vs:=(a.eval x).cells.toList) (l:=[kH]) (by simpa using Il) axu;omega
  have afL:=p.rel.aP z;obtain⟨uI,wo,NW,pf⟩:=HC (P:=P) afL aD gq;obtain⟨hlen,qn,afM,ON⟩:=wo;have ON:uI.length=dw:=axu;have nK:=p.rel.aP s;rw[aj]at nK;have yp:=nK;have nJ:=by
   have:=aAl bt g4;rw[lN]at this;exact aAs this (aBv _ _)
  have OO:=p.rel.aP i;rw[aW]at OO;have wE:=OO.int;have Ef:∀(b off len cap:Nat) (a':Act) (w':World),len=l.length+1->a'.tmps.getD d undef=.slice (some ⟨b,off,none⟩) len cap->a'.tmps.getD i undef=a.tmps.getD i undef->
    (execOp a'.eval cU).run P w'=.ok (.value (.pointer (some ⟨b,off+l.length*dw,none⟩))) w':=by
   intro b off len cap a' w' afN Be je;have h1:a'.eval (.tmp d)=.slice (some ⟨b,off,none⟩) len cap:=Be;have h2:a'.eval (.tmp i)=.int k n:=by show a'.tmps.getD i undef=_;simp_all
   have av:0<=n/\n<(len:Int):=axs;have aZ:n.toNat=l.length:=axs;simp[execOp,ep,h1,h2,Instr.indexAt,asIntOf,azP,azU,azS,eB hu,aAa av,jE cm,aAC,aZ]
  have Eg:∀(b pos:Nat) (c1:Array Value) (E:TypeId) (fz:Nat×Nat),(∀j,j<c1.size->¬(fz.1<=j/\j<fz.2))->pos+dw<=c1.size->∀(a':Act) (w':World),a'.tmps.getD e undef=.pointer (some ⟨b,pos,none⟩)->a'.eval x=a.eval x->
    w'.heap[b]?=some (.cells c1 E fz)->(execOp a'.eval eH).run P w'=.ok .skip (w'.setCells b pos (a.eval x).cells.toList):=by
   intro b pos c1 E fz hfz hle a' w' D5 kO eW;have h1:a'.eval (.tmp e)=.pointer (some ⟨b,pos,none⟩):=D5;have:=OJ (P:=P) (t:=ch) (v:=a.eval x) eW hfz (by rw[qt];omega) axv Im;simp[execOp,ou,h1,kO,azP,this,azS,azU]
  have grow:∀(cx:Option Addr) (cap:Nat) (olds:List Value),a.tmps.getD s undef=.slice cx l.length cap->(∀bS:World,bS.heap=w.heap->(Builtin.firstCells dw l.length (.slice cx l.length cap)).run P bS=.ok ⟨olds⟩ bS)->
    cn w G olds (l.flatMap D.cells)->(∀u,u∈olds->u.oneCell'=true)->(∀d,d∈l->d.cells.length=dw)->cap<l.length+1->OL P gl w G ρ lam a st K cY cU eH d s i e:=by
   intro cx cap olds hv hold holds yo aH aB;obtain⟨et,w1,dy,DX,hS⟩:=ym (P:=P) (ty:=cY.type) (base:=cx) (x:=a.tmps.getD z undef) hu cm hi oq nI qg rfl hlen qn hold aB iu nJ;rw[<-hv]at dy;replace DX:l.length+1<=et:=by omega
   have DY:olds.length=l.length*dw:=by rw[holds.length];exact qh aH
   have mU:(Builtin.zeroCells ec.cells (et-(l.length+1))).toList.length=(et-(l.length+1))*dw:=by
    simp[Builtin.zeroCells,wq]
   have Ea:w1.heap[w.heap.size]?=some (.cells ⟨(olds++uI)++(Builtin.zeroCells ec.cells (et-(l.length+1))).toList⟩ ch (0,0)):=hS.new;have sW:l.length*dw+(a.eval x).cells.toList.length<=(⟨(olds++uI)++(Builtin.zeroCells ec.cells (et-(l.length+1))).toList⟩:Array Value).size:=by
    simp;omega
   obtain⟨c3,b0,b7,c7,iy,wF,ov⟩:=Ii (us:=(a.eval x).cells.toList) (k:=l.length*dw) Ea sW;have yJ:c3=⟨(olds++(a.eval x).cells.toList)++(Builtin.zeroCells ec.cells (et-(l.length+1))).toList⟩:=by
    apply aBx;apply aBj;intro j;rw[Array.getElem?_toList];rcases aAv j (l.length*dw)with aL|aL
    .rw[c7 j (.inl aL),aAZ,aAJ,aAJ,aAp axs,aAp axs]
    .rcases aAv j (l.length*dw+dw)with lO|lO
     .have Io:j-l.length*dw<(a.eval x).cells.toList.length:=by omega
      have:=iy (j-l.length*dw) _ (azQ Io);rw[show l.length*dw+(j-l.length*dw)=j by omega]at this;rw[this,aAJ,aAA axs,DY,aAp Io,azQ Io]
     .rw[c7 j (.inr axs),aAZ,aAJ,aAJ,aAA axs,aAA axs,aAA axs,aAA axs,ON,OM]
   subst yJ;have mj:ga w (.cells ⟨(olds++(a.eval x).cells.toList)++(Builtin.zeroCells ec.cells (et-(l.length+1))).toList⟩ ch) (w1.setCells w.heap.size (l.length*dw) (a.eval x).cells.toList):=by
    refine⟨?_,oo.1.trans hS.os,oo.2.trans hS.out⟩;apply Array.ext_getElem?;intro j;by_cases aL:j=w.heap.size
    .subst aL;rw[b0,aBF];simp
    .rw[wF j aL,hS.heap,aBF,aBF,aAc aL,aAc aL]
   have sT:(l++[kH]).length=l.length+1:=axt;have gP:∀d,d∈l++[kH]->d.cells.length=dw:=by
    intro d a6;rcases aAu.1 a6 with h|h
    .exact aH d h
    .rw[az9.1 h];omega
   have jg:=Hz (ρ:=ρ) (d:=d) (cap:=et) mj gq gP axt (by rw[aCn];exact holds.append (by simpa using Il)) axs
    (by
     rw[az6,az6,DY,mU,OM,show l.length*dw+dw=(l.length+1)*dw by grind,<-Nat.add_mul];grind)
    axt (λv hv=>by
     rcases aAu.1 hv with h|h
     .exact yo v h
     .exact Im v h)
   rw[sT]at jg;have fC:(execOp a.eval cY).run P w=.ok (.value (.slice (some ⟨w.heap.size,0,none⟩) (l.length+1) et)) w1:=rG q1 dy;refine⟨_,_,w1,w.heap.size,l.length*dw,(a.eval x).cells.toList,x,_,fD w G (.slot d) ((l.length+1)*dw),(l.length+1)*dw,_,ch,(0,0),by rw[ou];rfl,fC,?_,Eg _ _ _ _ _ axt axs,Ea,sW,axO,mj.rel p.rel.lt p.rel.drop,mj.good p.rel.lt axt,.lb jg,hs⟩;intro a' w' Be je;have:=Ef w.heap.size 0 (l.length+1) et a' w' rfl Be je;grind
  rcases yp.afF with hA|⟨uA,mW,e0,heq,dV⟩
  .have:l=[]/\∃cx,a.tmps.getD s undef=.slice cx 0 0:=by
    cases hv:a.tmps.getD s undef<;>rw[hv]at hA<;>cases hA;simp
   obtain⟨rfl,cx,hv⟩:=this;refine grow cx 0 [] hv (λbS _=> ?_) .nil axt axt axt;cases cx with
   |none=>rfl
   |some cx=>simp[Builtin.firstCells,aAz,aA0];rfl
  .simp at heq;obtain⟨rfl,rfl⟩:=heq;obtain⟨b,off,cap,c,E,fz,vs,h1,h2,av,aZ,bW,dh,h6,h7,im,kL⟩:=dV;have om:vs.length=(mW::e0).length*dw:=by rw[kL.length];exact qh h7
   by_cases ml:(mW::e0).length+1<=cap
   .have DZ:off+(mW::e0).length*dw+dw<=c.size:=by
     have:((mW::e0).length+1)*dw<=cap*dw:=aAl _ ml;grind
    obtain⟨c1,cT,c8,du,iZ,s7,Bf⟩:=Ii (us:=uI) (k:=off+(mW::e0).length*dw) av axs;have sW:off+(mW::e0).length*dw+(a.eval x).cells.toList.length<=c1.size:=axs;obtain⟨c3,b0,b7,c7,iy,wF,ov⟩:=Ii (us:=(a.eval x).cells.toList) (k:=off+(mW::e0).length*dw) cT sW;have sV:=aBk (P:=P) b (off+(mW::e0).length*dw) uI 0 w
     (λj aL=>by
      rw[aAj,cell_of_block av];have:off+(mW::e0).length*dw+j<c.size:=axs;rw[aAx this];rfl)
     (λj aL=>by
      rw[aAj,uy av];have:off+(mW::e0).length*dw+j<c.size:=axs;have:=aZ _ this;grind)
     afM
    rw[aAj]at sV;have dy:=wm (P:=P) (ty:=cY.type) (n:=(mW::e0).length) (m:=1) (cap:=cap) (base:=some ⟨b,off,none⟩) (w1:=w.setCells b (off+(mW::e0).length*dw) uI) hu cm qg rfl hlen (qn w rfl) ml
     (show(storeCells ((⟨b,off,none⟩:Addr).add _) uI).run P w=_ by rw[aAC];omega)
    rw[<-h1]at dy;have fC:=rG (a:=a) (x:=.tmp z) q1 dy;obtain⟨G',bU,b4,dm⟩:=afG (d:=d) (us:=(a.eval x).cells.toList) (l2:=[kH]) (w1:=(w.setCells b (off+(mW::e0).length*dw) uI).setCells b (off+(mW::e0).length*dw) (a.eval x).cells.toList) p.rel h2 av aZ bW dh h6 h7 im kL ml
     (by simpa using Il) Im (by simpa using g5) b0 (b7.trans c8) (λj aL=>(c7 j (.inl aL)).trans (du j (.inl aL))) iy (λcg eW=>(wF cg eW).trans (s7 cg eW)) (ov.trans Bf) (oo.1.trans oo.1) (oo.2.trans oo.2)
    have Bg:∃n,G' b=some (.slot d,n):=by
     obtain⟨aR,atZ,qp,c2,uz,qm,ot,bN,cz,gM,nL,qq,Bh,Ip,_⟩:=dm;simp at bN;obtain⟨⟨rfl,_⟩,_⟩:=bN;exact⟨_,Ip⟩
    obtain⟨afO,Bg⟩:=Bg;refine⟨_,_,_,b,off+(mW::e0).length*dw,(a.eval x).cells.toList,x,_,G',afO,c1,E,fz,by rw[ou];rfl,fC,?_,Eg _ _ _ _ _ (by rw[c8];omega) axs,cT,sW,Bg,bU,b4,.lb dm,hs⟩;intro a' w' Be je;exact Ef b off _ cap a' w' rfl Be je
   .refine grow (some ⟨b,off,none⟩) cap vs h1 (λbS hw=> ?_) kL im.one h7 axs;simp only[Builtin.firstCells];rw[<-om];exact aBl (P:=P) bS ⟨b,off,none⟩ vs (λj v hv=>by
     rw[aAC,DU hw];exact(im j v hv).1)
 .exact hs.elim
def aB5:=@Nat.blt_eq
theorem axY(h:p:=by grind[fB,Nat.blt_eq]):p:=h
theorem s8{l:List Nat}{m i b:Nat}(hi:i<m)(h:l[i]?=some b):(l.take m)[i]?=some b:=axu
theorem OP{m:Nat}:∀(n:Nat) {v:Value} {x:ag},dc w G ρ v x->fB m n x=true->dc w G (ρ.take m) v x:=by
 intro n;induction n with
 |zero=>
  intro v x h bb;cases h with
  |undef v=>exact .undef v
  |d _ _ h=>exact .d _ _ h
  |nil a s=>exact .nil a s
  |ptr _ _ _ h=>exact .ptr _ _ _ (s8 axY h)
  |map _ _ h=>exact .map _ _ (s8 axY h)
  |aS _ _ _ _ _ _ _ h ay aQ=>exact .aS _ _ _ _ _ _ _ (s8 axY h) ay aQ
  |func _ _ _ _ _ _ _=>grind[fB]
  |agg _ _ _=>grind[fB]
  |tuple _ _ _=>grind[fB]
  |fT _ _ h=>exact .fT _ _ (s8 axY h)
 |succ n ih=>
  have bF:∀{vs:List Value} {xs:List ag},cf w G ρ vs xs->(∀x,x∈xs->fB m n x=true)->cf w G (ρ.take m) vs xs:=by
   intro vs;induction vs with
   |nil=>intro xs h _;cases h;exact .nil
   |cons v vs HX=>
    intro xs h bb;cases h with
    |cons _ x _ xs h1 h2=>exact .cons _ _ _ _ (ih h1 (bb x axt)) (HX h2 λy hy=>bb y axv)
  intro v x h bb;cases h with
  |undef v=>exact .undef v
  |d _ _ h=>exact .d _ _ h
  |nil a s=>exact .nil a s
  |ptr _ _ _ h=>exact .ptr _ _ _ (s8 axY h)
  |map _ _ h=>exact .map _ _ (s8 axY h)
  |aS _ _ _ _ _ _ _ h ay aQ=>exact .aS _ _ _ _ _ _ _ (s8 axY h) ay aQ
  |func _ _ _ _ _ h1 h2=>
   simp[fB,aCo,azH,azX]at bb;exact .func _ _ _ _ _ (bF h1 bb.1) (bF h2 bb.2)
  |agg _ _ h1=>
   simp[fB,azX]at bb;exact .agg _ _ (bF h1 bb)
  |tuple _ _ h1=>
   simp[fB,azX]at bb;exact .tuple _ _ (bF h1 bb)
  |fT _ _ h=>exact .fT _ _ (s8 axY h)
theorem Iq{m n:Nat}{L:Loc}{v:Value}{x:ag}(h:dr w G ρ L v x)(bb:fB m n x=true):dr w G (ρ.take m) L v x:=by
 rcases h.cases with h|⟨sz,l,rfl,dV⟩|⟨sz,m,us,rfl,dV⟩
 .grind[OP,dr.ck]
 .exact .x' dV
 .exact dV
theorem OQ{m b:Nat}{L:Loc}{LC:Nat->Loc}{cs:List ag}(h:dJ w G ρ b L LC cs)(bb:cs.all (fB m depth)=true):dJ w G (ρ.take m) b L LC cs:=by
 obtain⟨c,E,fz,h1,h2,av,aZ,bW⟩:=h;exact⟨c,E,fz,h1,h2,av,aZ,λj v x hv ak=>Iq (bW j v x hv ak) (azX.1 bb x (aAe ak))⟩
theorem OR{m:Nat}{s:aV}(h:ho w G ρ s)(bb:(s.take m).all (b3.fB m)=true):ho w G (ρ.take m) (s.take m):=by
 refine⟨by simp[h.1],?_⟩;intro i b o aq hs;rw[aBe]at aq hs;split at aq
 .rename_i hi;rw[aAa hi]at hs;have Eh:=azX.1 bb o (aAe (i:=i) axu);have aw:=h.2 i b o aq hs;cases o with
  |box cs=>exact OQ aw Eh
  |map es=>
   obtain⟨mes,clock,h1,h2,av,aZ⟩:=aw;refine⟨mes,clock,h1,h2,av,λj e p he hp=>⟨(aZ j e p he hp).1,OP depth (aZ j e p he hp).2 ?_⟩⟩;grind[b3.fB]
  |dead=>trivial
  |hM t e bs=>exact aw
  |hZ m=>
   rcases aw with aw|⟨k,aR,since,last,h1,h2,av⟩
   .exact .inl aw
   .subst h1;simp[b3.fB,Option.all_some,aB5]at Eh;exact .inr ⟨k,aR,since,last,rfl,axu,av⟩
 simp_all
theorem Ir(aP:Nat->ag)(t:Nat):∀ts:List Nat,sC aP ts t=if t∈ts then aP t else .undef
 |[]=>by simp[sC]
 |s::ts=>by
  simp[sC,df,Ir aP t ts,azY];by_cases h:t=s
  .simp[h]
  .simp[h]
theorem Ei(bI:Nat->Option (List ag))(t:Nat):∀bs:List Nat,sD bI bs t=if t∈bs then bI t else none
 |[]=>by simp[sD]
 |s::bs=>by
  simp[sD,df,Ei bI t bs,azY];by_cases h:t=s
  .simp[h]
  .simp[h]
theorem OS{aP:Nat->ag}{bs:List Nat}:∀{ts:List Nat},keeps aP bs ts=true->∀t,t∈ts->∀u off,aP t=.dT u off->u∈bs
 |[],_,t,aC=>axu
 |s::ts,h,t,aC=>by
  simp[keeps,azH]at h;intro u off hu;rcases azY.1 aC with rfl|aC
  .simp_all[pe]
  .exact OS h.2 t aC u off hu
theorem bV.forget{n:Nat}{ts bs:List Nat}(p:bV n0 gl nt w G ρ lam a st)(au:keeps st.aP bs ts=true):
  ∃ρ' lam',bV n0 gl nt w G ρ' lam' a (Dq n ts bs st)/\(ρ'=ρ\/ρ'=ρ.take n):=by
 let lam':=λt=>if t∈bs then lam t else none
 have h1:bX gl w G ρ lam' a.tmps ⟨sC st.aP ts,sD st.bI bs,st.s⟩:=by
  refine⟨?_,?_,?_,p.rel.ob,p.rel.eI,p.rel.lt⟩
  .intro t;simp only[Ir];split
   .rename_i aC;have:=p.rel.aP t;rcases this.cases with h|⟨u,off,b,e,h1,h2⟩
    .exact .lb h
    .rw[e];refine⟨b,?_,h2⟩;simp only[lam'];rw[aAa (OS au t aC u off e)];omega
   .exact .ck (.undef _)
  .intro t cs aq;simp only[Ei]at aq;split at aq
   .rename_i aC;obtain⟨b,h1,h2⟩:=p.rel.bI t cs aq;grind
   simp_all
  .intro t aq;simp only[Ei]at aq;simp only[lam'];split at aq
   .rename_i aC;rw[aAa aC];exact p.rel.nb t aq
   simp_all
 unfold Dq;cases ay:(ts.all (λt=>fB n depth (st.aP t))&&bs.all (okB n st.bI)&&(st.s.take n).all (b3.fB n))with
 |false=>exact⟨ρ,lam',⟨h1,p.eC,p.sz⟩,.inl rfl⟩
 |true=>
  simp only[azH]at ay;refine⟨ρ.take n,lam',⟨⟨?_,?_,h1.nb,OR p.rel.ob ay.2,p.rel.eI,p.rel.lt⟩,p.eC,p.sz⟩,.inr rfl⟩
  .intro t;have:=h1.aP t;simp[Ir]at this⊢;split
   .rename_i aC;rw[aAa aC]at this;have bb:=azX.1 ay.1.1 t aC;rcases this.cases with h|⟨u,off,b,e,h1,h2⟩
    .exact .lb (Iq h bb)
    .rw[e];exact⟨b,h1,h2⟩
   .exact .ck (.undef _)
  .intro t cs aq;obtain⟨b,h2,av⟩:=h1.bI t cs aq;refine⟨b,h2,OQ av ?_⟩;simp only[Ei]at aq;split at aq
   .rename_i aC;have bb:=azX.1 ay.1.2 t aC;grind[okB]
   simp_all
end
def aAE:=@Array.getD_eq_getD_getElem?
theorem ay0(h:p:=by simpa [Act.put]using p.sz):p:=h
section
variable {P:Program}{gl:Nat->List D}{n0 nt:Nat}{a:Act}{w w' w0:World}{G G' G0:bJ}{ρ ρ' ρ0:List Nat}{lam lam':Nat->Option Nat}{st aU:af}{K:af->Prop}{o:Oper}{Q:Exit->Act->World->Prop}
def j0(n0:Nat)(gl:Nat->List D)(nt:Nat)(w:World)(G:bJ)(ρ:List Nat)(K:aA->af->Prop):Exit->Act->World->Prop
 |.normal,a',w'=>cy n0 gl nt w G ρ (K .normal) a' w'
 |.exit i,a',w'=>cy n0 gl nt w G ρ (K (.exit i)) a' w'
 |.ret,a',w'=>cy n0 gl nt w G ρ (K .ret) a' w'
 |_,_,_=>False
structure iN(w0:World)(G0:bJ)(ρ0:List Nat)(w:World)(G:bJ)(ρ:List Nat):Prop where
 good:Good w0 G0 w G
 pre:∀i b:Nat,ρ0[i]?=some b->ρ[i]?=some b
theorem iN.after(f:iN w0 G0 ρ0 w G ρ){a':Act}{w':World}(h:cy n0 gl nt w G ρ K a' w'):cy n0 gl nt w0 G0 ρ0 K a' w':=by
 obtain⟨h2,G',ρ',lam',aU,h1,av,aZ,bW,dh⟩:=h;exact⟨h2,G',ρ',lam',aU,h1,av,f.good.trans aZ,λi b h=>bW i b (f.pre i b h),dh⟩
theorem iN.post(f:iN w0 G0 ρ0 w G ρ){K:aA->af->Prop}{e:Exit}{a':Act}{w':World}(h:j0 n0 gl nt w G ρ K e a' w'):j0 n0 gl nt w0 G0 ρ0 K e a' w':=by
 cases e<;>first|exact f.after h|exact h.elim
theorem bV.lQ(p:bV n0 gl nt w G ρ lam a st):iN w G ρ w G ρ:=⟨Good.refl p.rel.lt,λ_ _ h=>h⟩
theorem bV.after(p:bV n0 gl nt w G ρ lam a st)(h:K st):cy n0 gl nt w G ρ K a w:=
 ⟨p.sz,G,ρ,lam,st,p.eC,p.rel,Good.refl p.rel.lt,λ_ _ h=>h,h⟩
theorem Is{ops:Array Oper}{g:Option (Nat×Bool)}(aE:o3 ops o=some g)(ew:∀t,de w G ρ lam (.slot t) (a.tmps.getD t undef) (st.aP t)):
  (g=none/\Region.wanted o (yielded ops a.tmps)=true)\/
  ∃s want,g=some (s,want)/\((∃b,st.aP s=.d (.bool b)/\Region.wanted o (yielded ops a.tmps)=(cond want b (!b)))\/
   (st.aP s=.tuple []/\Region.wanted o (yielded ops a.tmps)=false)\/((∀b,st.aP s≠.d (.bool b))/\st.aP s≠.tuple [])):=by
 unfold o3 at aE;split at aE
 .grind[Region.wanted]
 .rename_i j want az;split at aE
  .rename_i s hs;simp at aE;refine .inr ⟨s,want,aE.symm,?_⟩;have hw:Region.wanted o (yielded ops a.tmps)=(yielded ops a.tmps j==some want):=by grind[Region.wanted]
   have hy:yielded ops a.tmps j=match a.tmps[s]? with|some (.bool b)=>some b|_=>none:=by
    grind[yielded]
   have aw:=ew s;rw[hw,hy];by_cases h1:∃b,st.aP s=.d (.bool b)
   .obtain⟨b,aq⟩:=h1;refine .inl ⟨b,aq,?_⟩;rw[aq]at aw;have hv:=aw.bool;rw[aAE]at hv;grind[undef]
   .by_cases h2:st.aP s=.tuple []
    .refine .inr (.inl ⟨h2,?_⟩);rw[h2]at aw;have aw:=aw;rw[aAE]at aw;cases ak:a.tmps[s]? with
     |none=>rfl
     |some v=>
      rw[ak]at aw;simp at aw;cases aw;rfl
    simp_all
  simp_all
theorem Bi{d:Option Nat}(p:bV n0 gl nt w G ρ lam a st)(aY:o.dst=d)(bp:kg nt o=true)(ao:K (st.dA d (.tuple []))):cy n0 gl nt w G ρ K (a.put o.dst undef) w:=
 D' p.rel p.eC p.sz (λt aC=>ayC) (Good.refl p.rel.lt) (λ_ _ h=>h) aY
  (λ_ _=>.ck (.tuple [] [] .nil)) ao
def qu(P:Program)(an:eo)(m:fl)(o:Oper)(ins:I):Prop:=jc P an m o=some ins\/ins=.bad o.dst
theorem OT{an:eo}{m:fl}{i:I}(p:bV n0 gl nt w G ρ lam a st)(h:qu P an m o i)(a6:kg nt o=true)
  (hs:step (bz P gl) gl i st K):o.wp P a w (cy n0 gl nt w G ρ K) Q:=by
 rcases h with h|rfl
 .grind[Ig]
 .exact hs.elim
theorem Iu{ops:Array Oper}{i:Nat}{an:eo}{m:fl}{ins:I}{g:Option (Nat×Bool)}(p:bV n0 gl nt w G ρ lam a st)(bb:ops[i]?=some o)(h:qu P an m o ins)
  (aE:o3 ops o=some g) (a6:kg nt o=true) (Bj:ins.dst=o.dst) (hs:steps (bz P gl) gl [⟨g,ins⟩] st K):wpOp P ops Q i (cy n0 gl nt w G ρ K) a w:=by
 unfold wpOp;rw[bb];simp;rcases Is aE p.rel.aP with⟨rfl,hw⟩|⟨s,want,rfl,⟨b,aq,hw⟩|⟨aq,hw⟩|⟨h1,h2⟩⟩
 .rw[hw];exact .inl (OT p h a6 hs)
 .rw[hw];simp only[steps,aq]at hs;cases ay:cond want b (!b)with
  |true=>grind[OT]
  |false=>grind[Bi]
 .rw[hw];simp[steps,aq]at hs;grind[Bi]
 .exfalso;simp[steps]at hs;first
   |exact hs
   |(split at hs
     .rename_i b aq;exact h1 b aq
     .rename_i aq;exact h2 aq
     .exact hs)
theorem wG{an:eo}{all:Array Oper}{m:fl}{g:cb}(h:vT P an nt all m o=some g):qu P an m o g.i/\o3 all o=some g.g/\kg nt o=true/\g.i.dst=o.dst:=by
 unfold vT at h;split at h
 .rename_i i g0 h1 h2;split at h
  .rename_i a6;simp at a6;simp at h;subst h;refine⟨?_,h2,a6.1,a6.2⟩;split at h1
   .rename_i iI hi;simp at h1;subst h1;exact .inl hi
   .simp at h1;exact .inr h1.symm
  simp_all
 simp_all
theorem uJ{an:eo}{all:Array Oper}{m:fl}{l:List Oper}{is:List cb}(h:hB P an nt all m (o::l)=some is):
  (∃g fV,vT P an nt all m o=some g/\hB P an nt all (uo P m o) l=some fV/\is=g::fV)\/
  (∃cU eH bC d i e fV,l=cU::eH::bC/\Aw P an o cU eH=some (d,i,e)/\d<nt/\e<nt/\hB P an nt all m bC=some fV/\is=⟨none,i⟩::⟨none,.lG (some e)⟩::⟨none,.lG none⟩::fV):=by
 have plain:∀{l:List Oper},(match vT P an nt all m o,hB P an nt all (uo P m o) l with|some g,some is=>some (g::is)|_,_=>none)=some is->
   ∃g fV,vT P an nt all m o=some g/\hB P an nt all (uo P m o) l=some fV/\is=g::fV:=by
  grind
 cases l with
 |nil=>
  rw[hB]at h;all_goals grind
 |cons cU l=>cases l with
  |nil=>
  rw[hB]at h;all_goals grind
  |cons eH l=>
   rw[hB]at h;split at h
   .rename_i d i e ak;split at h
    .rename_i aq;simp at aq;grind
    simp_all
   grind
theorem afP{R:Type}(A:mc R)(gl:Nat->List D)(g:cb)(l:List cb)(st:af)(K:af->R):steps A gl (g::l) st K=steps A gl [g] st λst=>steps A gl l st K:=by
 obtain⟨g,i⟩:=g;cases g with
 |none=>rfl
 |some q=>simp_all[steps]
theorem Bk{ops:Array Oper}{i:Nat}{v:Value}{w1:World}{M:Act->World->Prop}(bb:ops[i]?=some o)(aE:o.guard=none)(aw:(execOp a.eval o).run P w=.ok (.value v) w1)(h:M (a.put o.dst v) w1):wpOp P ops Q i M a w:=by
 unfold wpOp;rw[bb];have:Region.wanted o (yielded ops a.tmps)=true:=by grind[Region.wanted]
 grind[fP]
theorem Iv{ops:Array Oper}{i:Nat}{w1:World}{M:Act->World->Prop}(bb:ops[i]?=some o)(aE:o.guard=none)(aw:(execOp a.eval o).run P w=.ok .skip w1)(h:M (a.put o.dst undef) w1):wpOp P ops Q i M a w:=by
 simp_all[wpOp,Region.wanted,uu]
theorem qv{d t:Nat}{v:Value}(a6:d<a.tmps.size):(a.put (some d) v).tmps.getD t undef=if t=d then v else a.tmps.getD t undef:=by
 simp[Act.put];by_cases h:t=d;all_goals simp_all[azZ]
theorem Iw{d e s:Nat}{v1 v2:Value}{b7:ag}{dZ:World}{G':bJ}(aw:bX gl dZ G' ρ lam a.tmps (st.set s .undef))(hv:de dZ G' ρ lam (.slot d) v1 b7)(a6:d<a.tmps.size)(he:e<a.tmps.size):
  bX gl dZ G' ρ lam ((a.tmps.setIfInBounds d v1).setIfInBounds e v2) ((((st.set s .undef).set d b7).dA (some e) .undef).dA none .undef):=by
 have h1:=aw.set a6 hv;exact h1.set axu (.ck (.undef _))
theorem eval_put{x:Operand}{d:Nat}{v:Value}(h:∀q,x=.tmp q->q≠d):(a.put (some d) v).eval x=a.eval x:=by
 cases x with
 |tmp q=>
  have:=h q rfl;show(a.put (some d) v).tmps.getD q undef=a.tmps.getD q undef;simp_all[Act.put,azZ]
 |_=>rfl
theorem Ej{cY cU eH:Oper}{d s z i e sz b2:Nat}{y:O}(ak:Ij P cY cU eH d s z i e sz b2 y){xo:Operand}(h:eH.op.operands.toList=[.tmp e,xo]):(∀q,xo=.tmp q->q≠e/\q≠d)/\d≠i/\e≠d/\e≠i:=by
 obtain⟨t,u,ch,bt,rM,x,t3,q1,bK,cI,ep,gR,jx,ou,pg,qs,hu,qg,cm,ko,Ed,hy,gq,iu,lN,kq,jF,uH,n4⟩:=ak.ex;grind[Op.operands,bP]
theorem Ix{ops:Array Oper}{an:eo}:∀(fuel:Nat) {l:List Oper} {k:Nat} {m:fl} {is:List cb} {w:World} {G:bJ} {ρ:List Nat} {lam:Nat->Option Nat} {a:Act} {st:af},l.length<=fuel->
  (∀j,ops[k+j]?=l[j]?)->hB P an nt ops m l=some is->bV n0 gl nt w G ρ lam a st->iN w0 G0 ρ0 w G ρ->steps (bz P gl) gl is st K->
  (∀a' w',cy n0 gl nt w0 G0 ρ0 K a' w'->Q .normal a' w')->wpOps P ops Q (List.range' k l.length) a w
 |_,[],k,m,is,w,G,ρ,lam,a,st,_,_,ay,p,f,hs,a8=>by
  simp[hB,azJ]at ay;subst ay;exact a8 _ _ (f.after (p.after hs))
 |0,o::l,k,m,is,w,G,ρ,lam,a,st,yK,_,_,_,_,_,_=>axu
 |fuel+1,o::l,k,m,is,w,G,ρ,lam,a,st,yK,aH,ay,p,f,hs,a8=>by
  have bb:ops[k]?=some o:=by have:=aH 0;simp_all
  rcases uJ ay with⟨g,fV,h1,av,rfl⟩|⟨cU,eH,bC,d,ins,e,fV,rfl,ak,a6,he,av,rfl⟩
  .obtain⟨c1,c2,c3,c4⟩:=wG h1;rw[afP]at hs;refine wpOp_mono ?_ (Iu p bb c1 c2 c3 c4 hs);rintro a' w' ⟨aD,G',ρ',lam',aU,aj,aW,bQ,cK,dQ⟩;refine Ix fuel (l:=l) (k:=k+1) (m:=uo P m o) (by simp at yK;omega) (λj=> ?_) av ⟨aW,aj,aD⟩ ⟨f.good.trans bQ,λi b h=>cK i b (f.pre i b h)⟩ dQ a8;have:=aH (j+1);rw[show k+1+j=k+(j+1)by omega,this];rfl
  .obtain⟨s,z,i,y,sz,b2,rfl,iL⟩:=uG ak;have kP:ops[k+1]?=some cU:=axu;have qw:ops[k+2]?=some eH:=axu;have gp:=hs;obtain⟨v1,v2,w1,b,pos,us,xo,b7,G',n,c1,E,fz,r0,bU,b4,dm,pj,s9,gS,kr,qx,ta,Bl⟩:=Ee p iL gp;obtain⟨n4,kq,jF,uH⟩:=Ej iL r0;obtain⟨t,u,ch,bt,rM,x,t3,q1,bK,cI,ep,gR,jx,ou,pg,qs,_⟩:=iL.ex;have lj:=az' a6 p.sz;have rN:=az' he p.sz;rw[az0,az0,az0,aAQ,aAQ,aAQ,wpOps_cons];refine Bk bb cI bU ?_;rw[bK,wpOps_cons];refine Bk kP jx (b4 _ _ ?_ ?_) ?_
   .rw[qv lj,aAa rfl]
   .rw[qv lj,aAc (azZ kq)]
   rw[gR,wpOps_cons];refine Iv qw qs (dm _ _ ?_ ?_ pj) ?_
   .rw[qv ayn,aAa rfl]
   .rw[eval_put (λq aT=>(n4 q aT).1),eval_put (λq aT=>(n4 q aT).2)]
   rw[pg];have dt:=Iw (v2:=v2) kr ta lj rN;refine Ix fuel (l:=bC) (k:=k+1+1+1) (m:=m) axv (λj=> ?_) av ⟨dt,p.eC.good qx,ay0⟩ ⟨f.good.trans qx,f.pre⟩ Bl a8;have:=aH (j+3);grind
theorem afQ{K:aA->af->Prop}{b:eG}{y:Code}(hy:∀{w:World} {G:bJ} {ρ:List Nat} {lam:Nat->Option Nat} {a:Act} {st:af},bV n0 gl nt w G ρ lam a st->iN w0 G0 ρ0 w G ρ->
   run (bz P gl) gl b st K->y.wp P (j0 n0 gl nt w0 G0 ρ0 K) a w) {e:Exit} {a':Act} {w':World}
  (h:j0 n0 gl nt w0 G0 ρ0 (λx st=>match x with|.normal=>run (bz P gl) gl b st K|x=>K x st) e a' w'):Exit.then (y.wp P (j0 n0 gl nt w0 G0 ρ0 K)) (j0 n0 gl nt w0 G0 ρ0 K) e a' w':=by
 cases e with
 |normal=>
  obtain⟨aD,G',ρ',lam',aU,aj,aW,bQ,cK,dQ⟩:=h;exact hy ⟨aW,aj,aD⟩ ⟨bQ,cK⟩ dQ
 |exit i=>exact h
 |ret=>exact h
 |_=>exact h.elim
def aAG:=@List.mem_cons_of_mem
def aBM:=@List.mem_nil_iff
def aAR:=@or_false
def yL(P:Program)(an:eo)(nt:Nat)(ops:Array Oper)(i:Nat)(g:cb):Prop:=∃m o,ops[i]?=some o/\qu P an m o g.i/\o3 ops o=some g.g/\kg nt o=true/\g.i.dst=o.dst
theorem OU{an:eo}{ops:Array Oper}:∀{l:List Oper} {m:fl} {is:List cb} {k:Nat},(∀j,ops[k+j]?=l[j]?)->hB P an nt ops m l=some is->(∀g∈is,g.i.dst≠none\/∃x t off y n,g.i=.ls x t off y n)->(∀g∈is,∀d s z i x sz b2,g.i≠.kF d s z i x sz b2)->
  ∀i g,is[i]?=some g->yL P an nt ops (k+i) g
 |[],m,is,k,_,ay,_,_,i,g,aE=>by
  grind[hB]
 |o::l,m,is,k,aH,ay,az,ak,i,g,aE=>by
  rcases uJ ay with⟨nN,fV,h1,av,rfl⟩|⟨cU,eH,bC,d,ins,e,fV,rfl,at0,a6,he,av,rfl⟩
  .cases i with
   |zero=>
    simp at aE;subst aE;obtain⟨c1,c2,c3,c4⟩:=wG h1;exact⟨m,o,by have:=aH 0;simpa using this,c1,c2,c3,c4⟩
   |succ i=>
    have:=OU (k:=k+1) (λj=>by have:=aH (j+1);rw[show k+1+j=k+(j+1)by omega,this];rfl) av (λg aE=>az g (aAG _ aE)) (λg aE=>ak g (aAG _ aE)) i g (by simpa using aE);rwa [show k+1+i=k+(i+1)by omega]at this
  grind[uG,List.mem_cons_self]
theorem bV.drawn(p:bV n0 gl nt w G ρ lam a st)(n:Nat):bV n0 gl nt {w with drawn:=n} G ρ lam a st/\Good w G {w with drawn:=n} G:=by
 have au:da w G {w with drawn:=n} G:=⟨λ_ _ _ h=>h,λ_ _ h=>h,λ_ _ h=>h⟩;have hs:∀L,eV L L w G {w with drawn:=n} G:=λ_ _ _ h=>⟨rfl,h⟩;have aE:Good w G {w with drawn:=n} G:=⟨azI _,λ_ _ _=>⟨rfl,rfl⟩,λb n aq dB=>absurd (p.rel.lt _ _ _ dB) (aAW.2 aq),λ_ _ _ h=>h,au,rfl,rfl⟩;refine⟨⟨⟨λt=>(p.rel.aP t).bR au (λ_ _ h=>h) (λ_ _ h=>h) (hs _),?_,p.rel.nb,p.rel.ob.bR au (λ_=>hs _) (λ_ _=>hs _),p.rel.eI.bR au,p.rel.lt⟩,p.eC.good aE,p.sz⟩,aE⟩;intro t cs aq;obtain⟨b,h1,h2⟩:=p.rel.bI t cs aq;exact⟨b,h1,dJ.bR au (λ_ _ h=>h) (hs _) (λ_=>hs _) h2⟩
theorem yM{ops:Array Oper}{an:eo}{i:Nat}{g:cb}{n:Nat}{listed:Array Bool}(h:yL P an nt ops i g)(p:bV n0 gl nt w G ρ lam a st)(f:iN w0 G0 ρ0 w G ρ)(hs:steps (bz P gl) gl [g] st K)
  (au:∀{w:World} {G:bJ} {ρ:List Nat} {lam:Nat->Option Nat} {a:Act} {st:af},bV n0 gl nt w G ρ lam a st->iN w0 G0 ρ0 w G ρ->K st->wpAny P .any ops Q n listed a w):
  wpOp P ops Q i (wpAny P .any ops Q n listed) a w:=by
 obtain⟨m,o,bb,c1,c2,c3,c4⟩:=h;refine wpOp_mono ?_ (Iu p bb c1 c2 c3 c4 hs);rintro a' w' ⟨aD,G',ρ',lam',aU,aj,aW,bQ,cK,dQ⟩;exact au ⟨aW,aj,aD⟩ ⟨f.good.trans bQ,λi b h=>cK i b (f.pre i b h)⟩ dQ
theorem afR{ops:Array Oper}{an:eo}{id:Nat}{g0 g1 g2 g3:cb}(hm:P.follows .mixedOrders=true)(aw:Az ops=true)
  (h0:yL P an nt ops 0 g0) (h1:yL P an nt ops 1 g1) (h2:yL P an nt ops 2 g2) (av:yL P an nt ops 3 g3) (p:bV n0 gl nt w G ρ lam a st) (f:iN w0 G0 ρ0 w G ρ)
  (both:steps (bz P gl) gl [g0] st λst=>(steps (bz P gl) gl [g1] st λst=>steps (bz P gl) gl [g2] st λst=>steps (bz P gl) gl [g3] st K)/\(steps (bz P gl) gl [g2] st λst=>steps (bz P gl) gl [g1] st λst=>steps (bz P gl) gl [g3] st K))
  (a8:∀a' w',cy n0 gl nt w0 G0 ρ0 K a' w'->Q .normal a' w'):(Code.region id ops true).wp P Q a w:=by
 unfold Az at aw;simp at aw;obtain⟨⟨⟨⟨⟨⟨r0,bU⟩,b4⟩,dm⟩,pj⟩,s9⟩,gS⟩:=aw;refine wp_region_any hm ?_;obtain⟨p',aE⟩:=p.drawn (w.drawn+1);have s6:iN w0 G0 ρ0 {w with drawn:=w.drawn+1} G ρ:=⟨f.good.trans aE,f.pre⟩;rw[r0];show wpAny P .any ops Q 4 #[false,false,false,false] a _;have fin:∀{w:World} {G:bJ} {ρ:List Nat} {lam:Nat->Option Nat} {a:Act} {st:af},bV n0 gl nt w G ρ lam a st->iN w0 G0 ρ0 w G ρ->steps (bz P gl) gl [g3] st K->wpAny P .any ops Q 1 #[true,true,true,false] a w:=by
  intro w G ρ lam a st p f s;refine⟨axu,?_⟩;rw[s9];intro i hi;simp at hi;subst hi;refine yM av p f s λp f s=> ?_;exact⟨gS,a8 _ _ (f.after (p.after s))⟩
 refine⟨axu,?_⟩;rw[bU];intro i hi;simp at hi;subst hi;refine yM h0 p' s6 both λp f s=> ?_;show wpAny P .any ops Q 3 #[true,false,false,false] _ _;refine⟨axu,?_⟩;rw[b4];intro i hi;simp at hi;rcases hi with rfl|rfl
 .refine yM h1 p f s.1 λp f s=> ?_;grind[wpAny,yM]
 .refine yM h2 p f s.2 λp f s=> ?_;grind[wpAny,yM]
def lR(d e:Nat)(z bq aR:Bool):List cb:=[⟨none,.kE d [.d (.bool z)]⟩,⟨none,.ls (.t d) d 0 (.c (.d (.bool bq))) 1⟩,⟨none,.ls (.t d) d 0 (.c (.d (.bool aR))) 1⟩,⟨none,.hN e (.t d) d 0 1 false⟩]
def yN(d e:Nat)(z bq aR:Bool):eG:=.seq (.any [⟨none,.mb e false 0 (.c (.own 1 []))⟩] [[]]) (.cond (.t e) (.ops (lR d e z bq aR)) (.ops (lR d e z aR bq)))
theorem Iy{ops:Array Oper}{is:List cb}{c:eG}(h:G9 P ops is=some c):∃d e z bq aR,e≠d/\P.follows .mixedOrders=true/\Az ops=true/\is=lR d e z bq aR/\c=yN d e z bq aR:=by
 unfold G9 at h;split at h
 .rename_i d z d1 d2 bq d3 d4 aR e d5 d6;split at h
  .rename_i ay;simp at ay;obtain⟨⟨⟨⟨⟨⟨⟨⟨c1,c2⟩,rfl⟩,rfl⟩,rfl⟩,rfl⟩,rfl⟩,rfl⟩,c3⟩:=ay;simp at h;exact⟨_,e,z,bq,aR,c3,c1,c2,rfl,h.symm⟩
  simp_all
 simp_all
def lS(st:af)(d:Nat)(b:Bool):af:=(st.dX d [.d (.bool b)]).set d (.dT d 0)
def Ek(st:af)(d e:Nat)(b:Bool):af:=(lS st d b).set e (.d (.bool b))
theorem afS{d:Nat}{z:Bool}{K:af->Prop}(h:step (bz P gl) gl (.kE d [.d (.bool z)]) st K):K (lS st d z)/\∀K':af->Prop,K' (lS st d z)->step (bz P gl) gl (.kE d [.d (.bool z)]) st K':=by
 simp[step]at h⊢;split at h
 .exact⟨h,λK' h=>by first|exact h|(exact h)⟩
 .exact h.elim
theorem afT{α:Type}{f:Nat->α}{k:Nat}{x y:α}:cW (cW f k x) k y=cW f k y:=by
 grind[cW]
theorem OV{d:Nat}{z b:Bool}{K:af->Prop}:step (bz P gl) gl (.ls (.t d) d 0 (.c (.d (.bool b))) 1) (lS st d z) K↔K (lS st d b):=by
 have aj:(lS st d z).aP d=.dT d 0:=by simp[lS,af.set,cW]
 have aD:(lS st d z).bI d=some [.d (.bool z)]:=by simp[lS,af.set,af.dX,cW]
 have aW:(kill (lS st d z) (.c (.d (.bool b)))).dX d (putCells [.d (.bool z)] 0 (cellsOf (.d (.bool b))))=lS st d b:=by
  show({aP:=_,bI:=cW (cW st.bI d (some [.d (.bool z)])) d (some [.d (.bool b)]),s:=st.s}:af)=_;rw[afT];rfl
 simp[step,aK,aj,aD,aW];show(_=true/\_)↔_;simp_all[cellsOf,kc,sy,dU]
theorem OW{d e:Nat}{z:Bool}{K:af->Prop}:step (bz P gl) gl (.hN e (.t d) d 0 1 false) (lS st d z) K↔K (Ek st d e z):=by
 have aj:(lS st d z).aP d=.dT d 0:=by simp[lS,af.set,cW]
 have aD:(lS st d z).bI d=some [.d (.bool z)]:=by simp[lS,af.set,af.dX,cW]
 simp[step,aK,aj,aD];constructor
 .exact λh=>h.2
 .exact λh=>⟨axt,h⟩
theorem afU{d e:Nat}{b t:Bool}:Ek (st.set e (.d (.bool t))) d e b=Ek st d e b:=by
 show({aP:=cW (cW (cW st.aP e (.d (.bool t))) d (.dT d 0)) e (.d (.bool b)),bI:=_,s:=st.s}:af)={aP:=cW (cW st.aP d (.dT d 0)) e (.d (.bool b)),bI:=_,s:=st.s};congr 1;grind[cW]
theorem OX{d e:Nat}{z bq aR:Bool}{K:af->Prop}(h:steps (bz P gl) gl (lR d e z bq aR) st K):K (Ek st d e aR):=by
 unfold lR at h;simp[steps]at h;have h1:=(afS h).1;grind[OV,OW]
theorem afV{d e:Nat}{z bq aR t1 t2:Bool}{K:af->Prop}(h1:steps (bz P gl) gl (lR d e z bq aR) (st.set e (.d (.bool t1))) K)(h2:steps (bz P gl) gl (lR d e z aR bq) (st.set e (.d (.bool t2))) K):
  steps (bz P gl) gl [⟨none,.kE d [.d (.bool z)]⟩] st λst=>(steps (bz P gl) gl [⟨none,.ls (.t d) d 0 (.c (.d (.bool bq))) 1⟩] st λst=>steps (bz P gl) gl [⟨none,.ls (.t d) d 0 (.c (.d (.bool aR))) 1⟩] st λst=>steps (bz P gl) gl [⟨none,.hN e (.t d) d 0 1 false⟩] st K)/\(steps (bz P gl) gl [⟨none,.ls (.t d) d 0 (.c (.d (.bool aR))) 1⟩] st λst=>steps (bz P gl) gl [⟨none,.ls (.t d) d 0 (.c (.d (.bool bq))) 1⟩] st λst=>steps (bz P gl) gl [⟨none,.hN e (.t d) d 0 1 false⟩] st K):=by
 have bN:=OX h1;have cz:=OX h2;rw[afU]at bN cz;have aq:st.bI d=none:=by
  unfold lR at h1;simp[steps,step]at h1;cases ak:st.bI d with
  |none=>rfl
  |some y=>rw[show(st.set e (.d (.bool t1))).bI d=some y from ak]at h1;exact h1.elim
 have jy:∀K:af->Prop,K (lS st d z)->step (bz P gl) gl (.kE d [.d (.bool z)]) st K:=by
  intro K ao;simp[step,aq];exact ao
 simp_all[steps,OV,OW]
theorem OY{ops:Array Oper}{an:eo}{m:fl}{id:Nat}{is:List cb}{d e:Nat}{z bq aR t1 t2:Bool}(ay:hB P an nt ops m ops.toList=some is)(hm:P.follows .mixedOrders=true)(aw:Az ops=true)(hi:is=lR d e z bq aR)(p:bV n0 gl nt w G ρ lam a st)(f:iN w0 G0 ρ0 w G ρ)
  (h1:steps (bz P gl) gl (lR d e z bq aR) (st.set e (.d (.bool t1))) K) (h2:steps (bz P gl) gl (lR d e z aR bq) (st.set e (.d (.bool t2))) K)
  (a8:∀a' w',cy n0 gl nt w0 G0 ρ0 K a' w'->Q .normal a' w'):(Code.region id ops true).wp P Q a w:=by
 subst hi;have bb:=OU (k:=0) (λj=>axt) ay (by
  intro g aE;simp[lR,azY,aBM,aAR]at aE;grind[I.dst]) (by
  simp_all[lR])
 exact afR hm aw (by have:=bb 0 _ rfl;omega) (by have:=bb 1 _ rfl;omega) (by have:=bb 2 _ rfl;omega) (by have:=bb 3 _ rfl;omega) p f (afV h1 h2) a8
theorem afW{d e:Nat}{z bq aR:Bool}{K:aA->af->Prop}(h:run (bz P gl) gl (yN d e z bq aR) st K):
  steps (bz P gl) gl (lR d e z bq aR) (st.set e (.d (.bool true))) (K .normal)/\steps (bz P gl) gl (lR d e z aR bq) (st.set e (.d (.bool false))) (K .normal):=by
 unfold yN at h;simp[run,qa]at h;have aw:st.room (o1 [⟨none,.mb e false 0 (.c (.own 1 []))⟩])=st:=by
  show({st with s:=st.s++[]}:af)=st;simp
 obtain⟨⟨_,h1⟩,_,h2⟩:=h;simp_all[af.set,cW,p9,aK]
theorem afX{Y:iJ Prop}{yi:Nat}{d e:Nat}{z bq aR:Bool}{pp:Option aA}{K:aA->af->Option aA->Prop}(h:hc (bz P gl) gl Y yi (yN d e z bq aR) st pp K):
  steps (bz P gl) gl (lR d e z bq aR) (st.set e (.d (.bool true))) (λst=>K .normal st pp)/\steps (bz P gl) gl (lR d e z aR bq) (st.set e (.d (.bool false))) (λst=>K .normal st pp):=by
 unfold yN at h;simp[hc,qa]at h;have aw:st.room (o1 [⟨none,.mb e false 0 (.c (.own 1 []))⟩])=st:=by
  show({st with s:=st.s++[]}:af)=st;simp
 rw[aw]at h;obtain⟨⟨_,h1⟩,_,h2⟩:=h;have aj:∀x,(st.set e x).aP e=x:=λx=>by simp[af.set,cW]
 simp[p9,aK,aj,aCm,azL,az7]at h1 h2;exact⟨h2,h1⟩
def aA':=@Go.wp_mono
theorem ay1(h:p:=by rw[List.range_eq_range',aCl]):p:=h
def wH(P:Program)(gl:Nat->List D):Prop:=
 ∀{n0 nt:Nat} {an:eo} {m:fl} {id:Nat} {ops:Array Oper} {is:List cb} {dz:List (List Nat)} {w:World} {G:bJ} {ρ:List Nat} {lam:Nat->Option Nat} {a:Act} {st:af} {K:aA->af->Prop},
  hB P an nt ops m ops.toList=some is->M9 P ops is=some dz->bV n0 gl nt w G ρ lam a st->qa (bz P gl) gl is dz st (K .normal)->(Code.region id ops true).wp P (j0 n0 gl nt w G ρ K) a w
def Iz(P:Program)(gl:Nat->List D):Prop:=
 ∀{n0 nt:Nat} {an:eo} {m:fl} {f:Operand} {ps:Array Tmp} {x y:Code} {l bC:List (List Nat×List Nat)} {vc:eG} {w:World} {G:bJ} {ρ:List Nat} {lam:Nat->Option Nat} {a:Act} {st:af} {K:aA->af->Prop},
  dq P an nt m (.rangeFunc f ps x y) l=some (vc,bC)->bV n0 gl nt w G ρ lam a st->n0<=w.heap.size->run (bz P gl) gl vc st K->(Code.rangeFunc f ps x y).wp P (j0 n0 gl nt w G ρ K) a w
theorem afY{K:aA->af->Prop}{ts bs:List Nat}{I:Nat->af->Prop}{n:Nat}{cL:af}{jY:List Nat}(hlen:cL.s.length=jY.length)(f1:∀i b:Nat,ρ0[i]?=some b->jY[i]?=some b){e:Exit}{a':Act}{w' w1:World}{gC:bJ}
  (lg:Good w0 G0 w1 gC)
  (h:j0 n0 gl nt w1 gC jY (λx st=>match x with|.normal=>aJ.forget (bz P gl) cL.s.length ts bs st (λaU=>∃m,m<n/\I m aU)|x=>K x st) e a' w'):
  Exit.then (λa' w'=>∃m,m<n/\∃G ρ lam st,bV n0 gl nt w' G ρ lam a' st/\iN w0 G0 ρ0 w' G ρ/\I m st) (j0 n0 gl nt w0 G0 ρ0 K) e a' w':=by
 have f:iN w0 G0 ρ0 w1 gC jY:=⟨lg,f1⟩;cases e with
 |normal=>
  obtain⟨aD,G',ρ',lam',aU,aj,aW,bQ,cK,au,m,hm,dN⟩:=h;have p:bV n0 gl nt w' G' ρ' lam' a' aU:=⟨aW,aj,aD⟩;obtain⟨ρ2,ow,ey,cM⟩:=p.forget (n:=cL.s.length) au;refine⟨m,hm,G',ρ2,ow,_,ey,⟨lg.trans bQ,?_⟩,dN⟩;grind
 |exit i=>exact f.after h
 |ret=>exact f.after h
 |_=>exact h.elim
theorem afZ(uK:wH P gl)(OZ:Iz P gl){an:eo}{m:fl}:∀(c:Code) {l bC:List (List Nat×List Nat)} {vc:eG} {w0 w:World} {G0 G:bJ} {ρ0 ρ:List Nat} {lam:Nat->Option Nat} {a:Act} {st:af} {K:aA->af->Prop},
  dq P an nt m c l=some (vc,bC)->bV n0 gl nt w G ρ lam a st->iN w0 G0 ρ0 w G ρ->n0<=w0.heap.size->run (bz P gl) gl vc st K->c.wp P (j0 n0 gl nt w0 G0 ρ0 K) a w:=by
 intro c;induction c with
 |skip=>
  intro l bC vc w0 w G0 G ρ0 ρ lam a st K ay p f az aw;obtain⟨rfl,rfl⟩:=ay;exact wp_skip (f.after (p.after aw))
 |region id ops Bm=>
  intro l bC vc w0 w G0 G ρ0 ρ lam a st K ay p f az aw;simp[dq]at ay;split at ay
  .rename_i is mr;cases Bm with
   |true=>
    simp at ay;split at ay
    .rename_i dz fQ;obtain⟨rfl,rfl⟩:=ay;exact aA' (uK mr fQ p aw) λe a w h=>f.post h
    .split at ay
     .rename_i c IA;obtain⟨rfl,rfl⟩:=ay;obtain⟨d,e,z,bq,aR,_,c1,c2,c3,rfl⟩:=Iy IA;obtain⟨bN,cz⟩:=afW aw;exact OY mr c1 c2 c3 p f bN cz λa' w' h=>h
     .obtain⟨rfl,rfl⟩:=ay;exact aw.elim
   |false=>
    obtain⟨rfl,rfl⟩:=ay;refine wp_region ?_;have:List.range ops.size=List.range' 0 ops.toList.length:=ay1;rw[this];exact Ix _ (azI _) (λj=>axt) mr p f aw λa' w' h=>h
  simp_all
 |seq x y tc td=>
  intro l bC vc w0 w G0 G ρ0 ρ lam a st K ay p f az aw;simp[dq]at ay;split at ay
  .rename_i vx l1 ak;split at ay
   .rename_i Bn l2 hy;obtain⟨rfl,rfl⟩:=ay;refine wp_seq (aA' (tc ak p f az aw) λe a w h=> ?_);exact afQ (λp f aw=>td hy p f az aw) h
   simp_all
  simp_all
 |cond c x y tc td=>
  intro l bC vc w0 w G0 G ρ0 ρ lam a st K ay p f az aw;simp[dq]at ay;split at ay
  .rename_i vx co l1 bb ak;split at ay
   .rename_i Bn l2 hy;obtain⟨rfl,rfl⟩:=ay;simp[run]at aw;obtain⟨L,ew⟩:=dC bb p.rel;split at aw
    .grind[wp_cond_true,wp_cond_false,de.bool]
    .exact aw.elim
   simp_all
  simp_all
 |block i b ih=>
  intro l bC vc w0 w G0 G ρ0 ρ lam a st K ay p f az aw;simp[dq]at ay;split at ay
  .rename_i jS l1 aq;simp at ay;obtain⟨rfl,rfl⟩:=ay;refine wp_block (aA' (ih aq p f az aw) λe a w h=> ?_);cases e with
   |normal=>exact h
   |ret=>exact h
   |exit j=>
    obtain⟨aD,G',ρ',lam',aU,aj,aW,bQ,cK,dQ⟩:=h;simp only at dQ;simp[Exit.inBlock];by_cases aL:j=i
    .subst aL;simp[Nat.beq_refl,cond]at dQ;simp[if_true];exact⟨aD,G',ρ',lam',aU,aj,aW,bQ,cK,dQ⟩
    .have:Nat.beq j i=false:=by simp_all[aA6]
     simp[this,cond]at dQ;simp[aL,az4];exact⟨aD,G',ρ',lam',aU,aj,aW,bQ,cK,dQ⟩
   |_=>exact h.elim
  simp_all
 |loop b ih=>
  intro l bC vc w0 w G0 G ρ0 ρ lam a st K ay p f az aw;cases l with
  |nil=>grind[dq]
  |cons q l=>
   obtain⟨ts,bs⟩:=q;simp[dq]at ay;split at ay
   .rename_i jS l1 aq;simp[azJ,aAd]at ay;obtain⟨rfl,rfl⟩:=ay;simp[run]at aw;obtain⟨au,I,n,h0,tf⟩:=aw;obtain⟨ρ2,ow,ey,cM⟩:=p.forget (n:=st.s.length) au;have D9:ρ2=ρ:=by
     rcases cM with rfl|rfl
     .rfl
     .rw[aAP];rw[p.rel.ob.1];simp
    subst D9;refine wp_loop_ghost (λn a w=>∃G ρ lam st,bV n0 gl nt w G ρ lam a st/\iN w0 G0 ρ0 w G ρ/\I n st) n ⟨G,ρ2,ow,_,ey,f,h0⟩ ?_;rintro kq bh w1 ⟨gC,jY,IB,cL,p1,f1,dN⟩;refine aA' (ih aq p1 p1.lQ (aAs az f1.good.size) (tf kq cL dN)) λe a' w' h=> ?_;exact afY p1.rel.ob.1.symm f1.pre f1.good h
   simp_all
 |exit i=>
  intro l bC vc w0 w G0 G ρ0 ρ lam a st K ay p f az aw;simp[dq,azJ,aAd]at ay;obtain⟨rfl,rfl⟩:=ay;exact wp_exit (f.after (p.after aw))
 |ret=>
  intro l bC vc w0 w G0 G ρ0 ρ lam a st K ay p f az aw;simp[dq,azJ,aAd]at ay;obtain⟨rfl,rfl⟩:=ay;exact wp_ret (f.after (p.after aw))
 |rangeFunc g ps x y _ _=>
  intro l bC vc w0 w G0 G ρ0 ρ lam a st K ay p f az aw;exact aA' (OZ ay p (aAs az f.good.size) aw) λe a w h=>f.post h
 |scope _=>grind[dq]
 |label _=>grind[dq]
 |goto _=>grind[dq]
 |refuse _=>
  intro l bC vc w0 w G0 G ρ0 ρ lam a st K ay p f az aw;simp only[dq,azJ,aAd]at ay;obtain⟨rfl,rfl⟩:=ay;exact aw.elim
end
def aBz:=@Go.World.putObj_heap_other
def aBN:=@Go.World.cell?_of_block
def aBO:=@and_true
def aCq:=@List.nodup_cons
def aAn:=@List.mem_map
section
variable {P:Program}{gl:Nat->List D}{n0 nt:Nat}{a:Act}{w w' w0:World}{G G' G0:bJ}{ρ ρ' ρ0:List Nat}{lam lam':Nat->Option Nat}{st aU:af}{K:af->Prop}
def Bo:Obj->Bool
 |.cells .. |.map .. =>false
 |_=>true
theorem rO{b:Nat}{o o':Obj}(h:w.heap[b]?=some o)(bb:Bo o=true):da w G (w.putObj b o') G:=by
 refine⟨?_,?_,?_⟩;rotate_left
 .intro cg cU ay;obtain⟨h1,av,h2⟩:=ay;have cB:cg≠b:=by
   intro e;subst e;rw[h]at h2;simp at h2;subst h2;cases o<;>first|(exact Bool.noConfusion bb)|(exact Bool.noConfusion av)
  exact⟨h1,av,(aBz cB).trans h2⟩
 .intro cg n ay;obtain⟨c,E,fz,h2,av⟩:=ay;have cB:cg≠b:=by
   grind[Bo]
  exact⟨c,E,fz,(aBz cB).trans h2,av⟩
 intro cg off v ay;refine⟨?_,ay.2⟩;have cB:cg≠b:=by
  intro e;have:=ay.1;grind[World.cell?,Bo]
 rw[aBN (aBz cB)];exact ay.1
theorem yO{b:Nat}{o':Obj}(dB:G b=none)(L:Loc):eV L L w G (w.putObj b o') G:=by
 intro cg n aq;grind[World.putObj_heap_other]
theorem bX.putObj{b:Nat}{o o':Obj}{tmps:Array Value}(p:bX gl w G ρ lam tmps st)(h:w.heap[b]?=some o)(bb:Bo o=true)(dB:G b=none):bX gl (w.putObj b o') G ρ lam tmps st where
 aP t:=(p.aP t).bR (rO h bb) (λ_ _ h=>h) (λ_ _ h=>h) (yO dB _)
 bI t cs aq:=by
  obtain⟨cg,h1,h2⟩:=p.bI t cs aq;exact⟨cg,h1,dJ.bR (rO h bb) (λ_ _ h=>h) (yO dB _) (λ_=>yO dB _) h2⟩
 nb:=p.nb
 ob:=p.ob.bR (rO h bb) (λ_=>yO dB _) (λ_ _=>yO dB _)
 eI:=p.eI.bR (rO h bb)
 lt cg L n aq:=by rw[World.putObj_size];exact p.lt cg L n aq
theorem Good.putObj{b:Nat}{o o':Obj}(g:Good w0 G0 w G)(h:w.heap[b]?=some o)(bb:Bo o=true)(aq:w0.heap.size<=b):Good w0 G0 (w.putObj b o') G where
 size:=by grind[World.putObj_size]
 il cg eW dB:=by
  grind[World.putObj_heap_other,il]
 new:=g.new
 old:=g.old
 keep:=g.keep.trans (rO h bb)
 os:=g.os
 out:=g.out
theorem Marks.tail{D:Nat}{hq:List Nat}(h:Marks n0 w G ((D::hq).map mark)):D∉hq/\n0<=D/\w.heap[D]?=some (.deferred (some []))/\G D=none/\Marks n0 w G (hq.map mark):=by
 obtain⟨wI,h1,h2,av⟩:=h;have fm:wI=D::hq:=by
  have inj:∀(l bC:List Nat),l.map mark=bC.map mark->l=bC:=by
   intro l;induction l with
   |nil=>simp
   |cons x l ih=>
    intro bC h;cases bC with
    |nil=>grind
    |cons y bC=>
     simp[aAh,List.cons.injEq,mark,Deferred.mk.injEq,Target.collected.injEq,aBO]at h;grind
  grind
 subst fm;obtain⟨aj,aD,aW⟩:=av D axt;exact⟨(aCq.1 h2).1,aj,aD,aW,hq,rfl,(aCq.1 h2).2,λx ak=>av x axv⟩
theorem O0{fn:Func}{tmps:Array Value}{R:Ending->World->Prop}:∀(hq:List Nat) {w:World},bX gl w G ρ lam tmps st->Good w0 G0 w G->Marks w0.heap.size w G (hq.map mark)->
  (∀w,bX gl w G ρ lam tmps st->Good w0 G0 w G->∃v,(results fn tmps).run P w=.ok v w/\R (.returned v) w)->LeavesInM Fence.wide 0 P fn tmps R (hq.map mark) .returning w
 |[],w,p,g,_,h=>h w p g
 |D::hq,w,p,g,hm,h=>by
  obtain⟨h1,h2,av,aZ,bW⟩:=hm.tail;refine⟨axt,.inl ⟨D,w.putObj D (.deferred none),rfl,run_takeDeferred av,?_⟩⟩;refine O0 hq (p.putObj av rfl aZ) (g.putObj av rfl h2) ?_ h;obtain⟨wI,aj,aD,aW⟩:=bW;refine⟨wI,aj,aD,λE fm=> ?_⟩;obtain⟨f1,f2,f3⟩:=aW E fm;have cB:E≠D:=by
   intro e;have IC:mark E∈hq.map mark:=axv;obtain⟨x,ak,he⟩:=aAn.1 IC;simp_all[mark]
  grind[World.putObj_heap_other]
end
def aB6:=@Option.pure_def
def aBA:=@Go.wpIn_wide
def aB7:=@Nat.sub_zero
section
variable {P:Program}{gl:Nat->List D}{n0 nt:Nat}{a:Act}{w w' w0:World}{G G' G0:bJ}{ρ ρ' ρ0:List Nat}{lam lam':Nat->Option Nat}{st aU:af}{K:af->Prop}{o:Oper}{Q:Exit->Act->World->Prop}
theorem IE:∀{args:List ag} {vs:List Value} {n:Nat} {t:Nat},cf w G ρ vs args->(az:n<=t)->dc w G ρ ((vs[t-n]?).getD undef) (q7 args n t)
 |[],vs,n,t,h,_=>by
  cases h;exact .tuple [] [] .nil
 |x::args,vs,n,t,h,az=>by
  cases h with
  |cons v _ vs _ h1 h2=>
   simp[q7,df];by_cases aC:t=n
   .simp_all
   .rw[aAc aC];have:=IE (n:=n+1) (t:=t) h2 axs;rw[show t-n=(t-(n+1))+1 by omega,aBm];exact this
theorem O1{t b off:Nat}{v:Value}(h:(Instr.loadAt t (.pointer (some ⟨b,off,none⟩))).run P w=.ok v w):(loadVar t ⟨b,off,none⟩).run P w=.ok v w:=by
 grind[Instr.loadAt,Instr.sureAddr]
def tg(tmps:Array Value):ResultVar->Sem Value
 |.tmp t=>pure (tmps.getD t undef)
 |.cell c t=>do loadVar t (<-asAddr (tmps.getD c undef))
theorem El(fn:Func)(tmps:Array Value)(w:World):
  (results fn tmps).run P w=((fn.results.toList.mapM (tg tmps)).run P w).andThen λvs w'=>.ok (match vs with|[v]=>v|vs=>.tuple ⟨vs⟩) w':=by
 have:results fn tmps=(do let vs <-fn.results.mapM (tg tmps);pure (if h:vs.size=1 then vs[0]else .tuple vs)):=rfl;rw[this,Array.mapM_eq_mapM_toList];simp;cases (fn.results.toList.mapM (tg tmps)).run P w with
 |halt h w'=>rfl
 |ok vs w'=>
  simp;cases vs with
  |nil=>simp
  |cons v vs=>grind
theorem O2{an:eo}{uL:ResultVar}{r:n9}{x:ag}(p:bV n0 gl nt w G ρ lam a st)(ay:x6 P an uL=some r)(aw:vR st r=some x):
  ∃v,(tg a.tmps uL).run P w=.ok v w/\de w G ρ lam .res v x:=by
 cases uL with
 |tmp t=>
  simp[x6,azJ]at ay;subst ay;simp[vR,azJ]at aw;subst aw;exact⟨_,by grind[tg,Sem.run_pure],(p.rel.aP t).cE⟩
 |cell c t=>
  simp only[x6,aAB,azV]at ay;obtain⟨n,az,ah,dK,ay⟩:=ay;split at ay
  .rename_i h1;have h1:ah=false->n=1:=axv;simp at ay;have ew:=p.rel.aP c;split at ay
   .subst ay;simp only[vR]at aw;split at aw
    .rename_i i off he;rw[he]at ew;have hA:=ew;generalize hv:a.tmps.getD c undef=v at hA;cases hA with
     |ptr _ _ b aq=>
      have dV:=p.rel.ob.at aq;split at aw
      .rename_i cs gQ;rw[gQ]at dV;cases hle:Nat.ble (off+n) cs.length with
       |false=>simp_all
       |true=>
        rw[hle]at aw;simp at aw;subst aw;obtain⟨v,dy,dt⟩:=AH dV (azW hle) az dK h1;grind[tg,asAddr,O1,de.ck]
      simp_all
    simp_all
   .subst ay;simp[vR]at aw;split at aw
    .rename_i ek he;rw[he]at ew;obtain⟨b,aq,hv⟩:=ew;split at aw
     .rename_i cs gQ;obtain⟨cg,eW,dV⟩:=p.rel.bI ek cs gQ;rw[eW]at aq;simp at aq;subst aq;cases hle:Nat.ble n cs.length with
      |false=>simp_all
      |true=>
       rw[hle]at aw;simp at aw;subst aw;obtain⟨v,dy,dt⟩:=AH (off:=0) dV axu az dK h1;grind[tg,asAddr,O1,de.ck]
     simp_all
    simp_all
  simp_all
theorem af0{L:Loc}{v:Value}{x:ag}{n:Nat}(h:de w G ρ lam L v x)(az:dU n (cE x)=true):dc w G ρ v (cE x):=by
 rcases h.cases with h|⟨t,off,b,rfl,_,_⟩
 all_goals grind[cE,dU,dr.cE]
theorem O3{an:eo}(p:bV n0 gl nt w G ρ lam a st):∀{l:List ResultVar} {rs:List n9} {xs:List ag},l.mapM (x6 P an)=some rs->ui st rs=some xs->xs.all (dU (depth-1))=true->
  ∃vs,(l.mapM (tg a.tmps)).run P w=.ok vs w/\cf w G ρ vs xs
 |[],rs,xs,ay,aw,_=>by
  have:=ru ay;cases this;simp[ui,azJ]at aw;subst aw;exact⟨[],axt,.nil⟩
 |uL::l,rs,xs,ay,aw,az=>by
  simp[aBL,aAB,azV,aB6,azJ]at ay;obtain⟨r,h1,rs,h2,rfl⟩:=ay;simp[ui]at aw;split at aw
  .rename_i x xs aj aD;simp at aw;subst aw;simp only[aBt,azH]at az;obtain⟨v,hv,ew⟩:=O2 p h1 aj;obtain⟨vs,jf,bF⟩:=O3 p h2 aD az.2;refine⟨v::vs,?_,.cons _ _ _ _ (af0 ew az.1) bF⟩;simp_all
  simp_all
theorem af1{an:eo}{fn:Func}{rs:List n9}{r:ag}(p:bV n0 gl nt w G ρ lam a st)(ay:x7 P an fn.results.toList=some rs)(aw:qb st rs=some r)(az:dU depth r=true):
  ∃v fU,(results fn a.tmps).run P w=.ok v w/\dr w fU ρ .res v r/\ho w fU ρ st.s/\(∀b L n,fU b=some (L,n)->b<w.heap.size)/\Good w G w fU:=by
 unfold x7 at ay;split at ay
 .rename_i t bb aH;simp at ay;subst ay;simp[qb,vR,azJ]at aw;subst aw;have hs:eV (.slot t) .res w G w (cZ (fc (.slot t) .res) G):=by
   grind[oh,sI]
  have hid:∀L,L≠.slot t->eV L L w G w (cZ (fc (.slot t) .res) G):=λL bF=>ri (qd bF);have ew:=(p.rel.aP t).bR (lam':=lam) (jD _) (λ_ _ h=>h) (λ_ _ h=>h) hs;refine⟨_,cZ (fc (.slot t) .res) G,?_,ew.He az,p.rel.ob.bR (jD _) (λi=>hid _ axt) (λi j=>hid _ axt),qc p.rel.lt,qe p.rel.lt axt axt⟩;grind[El,tg,Sem.run_pure,Result.andThen_ok]
 .simp_all
 .rename_i bb;by_cases h1:∃r0,rs=[r0]
  .obtain⟨r0,rfl⟩:=h1;have aH:∃uL,fn.results.toList=[uL]/\x6 P an uL=some r0:=by
    have:=ru ay;generalize fn.results.toList=l at this;cases this with
    |cons h1 h2=>cases h2;simp_all
   obtain⟨uL,aH,af2⟩:=aH;obtain⟨v,hv,ew⟩:=O2 p af2 aw;refine⟨v,G,?_,ew.He az,p.rel.ob,p.rel.lt,Good.refl p.rel.lt⟩;simp_all[El]
  .replace aw:(ui st rs).map .tuple=some r:=by
    simp_all[qb]
   simp at aw;obtain⟨xs,ak,rfl⟩:=aw;obtain⟨vs,jf,bF⟩:=O3 p ay ak (by grind[dU,depth]);refine⟨.tuple ⟨vs⟩,G,?_,.ck (.tuple _ _ bF),p.rel.ob,p.rel.lt,Good.refl p.rel.lt⟩;rw[El,jf];have hlen:vs.length=rs.length:=by
    rw[bF.length];clear ay jf bF az bb h1;induction rs generalizing xs with
    |nil=>grind[ui]
    |cons r rs ih=>
     grind[ui]
   cases vs with
   |nil=>rfl
   |cons v vs=>cases vs with
    |nil=>
     cases rs with
     |nil=>simp_all
     |cons r rs=>simp_all
    |cons _ _=>rfl
theorem af3{an:eo}{f:Nat}{fn:Func}{c:Code}{vc:eG}{rs:List n9}{args:List ag}{s s':aV}{r:ag}(bm:P.funcs[f]?=some fn)(sL:(fn.name== "runtime.NumGoroutine")=false)(aq:fn.body=some c)
  (nO:x7 P an fn.results.toList=some rs)
  (af4:∀(n0:Nat) (w:World) (G:bJ) (ρ:List Nat) (lam:Nat->Option Nat) (a:Act) (st:af) {K:aA->af->Prop},bV n0 gl fn.ntmps w G ρ lam a st->n0<=w.heap.size->run (bz P gl) gl vc st K->c.wp P (j0 n0 gl fn.ntmps w G ρ K) a w)
  (aw:lH (bz P gl) gl ⟨vc,rs⟩ args s λfJ wJ=>fJ=r/\wJ=s'):bM P gl f args s r s':=by
 refine⟨⟨fn,bm,axu,sL⟩,?_⟩;intro w G ρ vs cq aE aB rq;refine callsIn_wide.1 (callsIn_of_wp_marks (n:=0) bm aq trivial (aBA.2 ?_));have p:bV w.heap.size gl fn.ntmps w G ρ (λ_=>none) {tmps:=(⟨vs⟩:Array Value)++Array.replicate (fn.ntmps-(⟨vs⟩:Array Value).size) undef,defers:=[]} {aP:=q7 args 0,bI:=λ_=>none,s}:=by
  refine⟨⟨?_,λt cs h=>axv,λ_ _=>rfl,cq,aE,aB⟩,.nil,?_⟩
  .intro t;have h1:=IE (n:=0) (t:=t) rq (azF _);have h2:(((⟨vs⟩:Array Value)++Array.replicate (fn.ntmps-(⟨vs⟩:Array Value).size) undef).getD t undef)=(vs[t-0]?).getD undef:=by
    rw[aAE,Array.getElem?_append,aB7];grind
   grind[de.ck]
  grind
 refine aA' (af4 w.heap.size w G ρ (λ_=>none) _ _ p (azI _) aw) ?_;have fin:∀(a':Act) (w':World),cy w.heap.size gl fn.ntmps w G ρ (λst=>match qb st rs with
   |some fJ=>dU depth fJ=true/\(fJ=r/\gc s.length fJ st.s=s')
   |none=>False) a' w'->LeavesInM Fence.wide 0 P fn a'.tmps (λe w'=>∃v G' ρ',e=.returned v/\dr w' G' ρ' .res v r/\ho w' G' ρ' s'/\
    (∀b L n,G' b=some (L,n)->b<w'.heap.size)/\Good w G w' G'/\(∀i b:Nat,ρ[i]?=some b->ρ'[i]?=some b)) a'.defers .returning w':=by
  rintro a' w' ⟨aD,G',ρ',lam',aU,aj,aW,bQ,cK,dQ⟩;split at dQ
  .rename_i fJ gO;obtain⟨az,rfl,hs⟩:=dQ;have af5:=aj;obtain⟨hq,IG,_,_⟩:=af5;rw[IG]at aj⊢;refine O0 hq aW bQ aj λw' aW bQ=> ?_;have p':bV 0 gl fn.ntmps w' G' ρ' lam' {a' with defers:=[]} aU:=⟨aW,.nil,aD⟩;obtain⟨v,fU,h1,h2,av,aZ,bW⟩:=af1 p' nO gO az;refine⟨v,h1,v,fU,?_⟩;unfold gc at hs;cases hcnd:(fB s.length depth fJ&&(aU.s.take s.length).all (b3.fB s.length))with
   |false=>
    rw[hcnd]at hs;simp at hs;grind[Good.trans]
   |true=>
    rw[hcnd]at hs;simp at hs;simp only[azH]at hcnd;subst hs;refine⟨ρ'.take s.length,rfl,Iq h2 hcnd.1,OR av hcnd.2,aZ,bQ.trans bW,?_⟩
    .intro i b hi;refine s8 ?_ (cK i b hi);rw[<-cq.1];grind
  simp_all
 intro e a' w' h;cases e with
 |normal=>exact fin a' w' h
 |ret=>exact fin a' w' h
 |exit i=>obtain⟨_,_,_,_,_,_,_,_,_,h⟩:=h;exact h.elim
 |_=>exact h.elim
theorem af6(uK:wH P gl)(OZ:Iz P gl){an:eo}{f:Nat}{fn:Func}{cO:aX}{args:List ag}{s s':aV}{r:ag}(bm:P.funcs[f]?=some fn)(sL:(fn.name== "runtime.NumGoroutine")=false)(ay:ur P an fn=some cO)
  (aw:lH (bz P gl) gl cO args s λfJ wJ=>fJ=r/\wJ=s'):bM P gl f args s r s':=by
 unfold ur at ay;simp[aAB,azV]at ay;grind[af3,afZ,bV.lQ]
end
def az3:=@List.mem_append_left
def aAf:=@List.mem_append_right
def aA1:=@and_self
def aBa:=@Option.toList_some
def aBb:=@List.append_nil
def aAi:=@List.not_mem_nil
theorem axE(h:p:=by have h1:=h.1;have h2:=h.2.1):p:=h
theorem axP(h:p:=by have h1:=h.1):p:=h
theorem axZ(h:p:=by simp[step,ah.aK (x:=x) (λt aC=>aC),hG,aA1,azL,az7,↓reduceIte,aAw, *]):p:=h
theorem ayf(h:p:=by simp[I.oa]):p:=h
theorem ayr(h:p:=by have h1:=h.1;simp[step,ah.aK (x:=x) (λt aC=>az3 _ aC),ah.aK (x:=y) (λt aC=>aAf _ aC),hG,aA1,azL,az7,↓reduceIte,aAw, *]):p:=h
theorem azi(h:p:=by have h1:=h.1;simp[step,ah.aK (x:=x) (λt aC=>aC),hG,aA1,azL,az7,↓reduceIte,aAw, *]):p:=h
theorem azj(h:p:=by have h1:=h.1;simp only[step,ah.aK (x:=x) (λt aC=>az3 _ aC),ah.aK (x:=y) (λt aC=>aAf _ aC),hG,aA1,azL,az7,↓reduceIte,aAw, *]):p:=h
section
variable {P:Program}{gl:Nat->List D}
structure ox(i:I)(st aN:af):Prop where
 aP:∀t,t∈i.rd->aN.aP t=st.aP t
 bI:∀t,t∈i.oa->aN.bI t=st.bI t
 s:i.rs=true->aN.s=st.s
def mix(i:I)(aN aU:af):af:=
 ⟨λt=>if t∈i.wr then aU.aP t else aN.aP t,λt=>if t∈i.gI then aU.bI t else aN.bI t,if i.ws=true then aU.s else aN.s⟩
def IH(P:Program)(gl:Nat->List D)(i:I)(st:af)(K:af->Prop):Prop:=
 ∃aU,K aU/\(∀t,t∉i.wr->aU.aP t=st.aP t)/\(∀t,t∉i.gI->aU.bI t=st.bI t)/\(i.ws=false->aU.s=st.s)/\
  ∀aN (bE:af->Prop),ox i st aN->bE (mix i aN aU)->step (bz P gl) gl i aN bE
def fW(P:Program)(gl:Nat->List D)(i:I):Prop:=∀st (K:af->Prop),step (bz P gl) gl i st K->IH P gl i st K
theorem ox.aK{i:I}{st aN:af}(h:ox i st aN){x:O}(ak:∀t,t∈x.slots->t∈i.rd):aJ.aK gl aN x=aJ.aK gl st x:=by
 cases x with
 |t n=>exact h.aP n (ak n (by simp[O.slots]))
 |c v=>rfl
 |g n=>rfl
theorem ti{i:I}{aN aU qy:af}(h1:∀t,(if t∈i.wr then aU.aP t else aN.aP t)=qy.aP t)(h2:∀t,(if t∈i.gI then aU.bI t else aN.bI t)=qy.bI t)(av:(if i.ws=true then aU.s else aN.s)=qy.s):
  mix i aN aU=qy:=by
 obtain⟨a,b,c⟩:=qy;simp[mix,af.mk.injEq];simp_all
theorem IH.set{i:I}{d:Nat}{v:ag}{st:af}{K:af->Prop}(hw:i.wr=[d])(aq:i.gI=[])(hs:i.ws=false)(ao:K (st.set d v))
  (h:∀aN (bE:af->Prop),ox i st aN->bE (aN.set d v)->step (bz P gl) gl i aN bE):IH P gl i st K:=by
 refine⟨_,ao,λt aC=> ?_,λt _=>rfl,λ_=>rfl,λaN bE ah au=>h aN bE ah ?_⟩
 .simp_all[af.set,df]
 .have:mix i aN (st.set d v)=aN.set d v:=by
   refine ti (λt=> ?_) (λt=>by grind[af.set]) (by grind[af.set]);simp_all[af.set,df]
  simp_all
theorem hG(b:Bool)(p:Prop):(bz P gl).guard b p=(b=true/\p):=rfl
theorem at1:(bz P gl).fail=False:=rfl
theorem af7{d:Nat}{x:O}:fW P gl (.cS d x):=by
 intro st K h;all_goals first
  |exact h.elim
  |exact h.2.elim
  |exact .set rfl rfl rfl h λaN bE ah au=>axZ
  |exact .set rfl rfl rfl h.2 λaN bE ah au=>axP
  |exact .set rfl rfl rfl h.2.2 λaN bE ah au=>axE
theorem af8{d:Nat}{c x y:O}:fW P gl (.ei d c x y):=by
 intro st K h;simp[step]at h;repeat' split at h
 all_goals first
  |exact h.elim
  |exact h.2.elim
  |exact .set rfl rfl rfl h λaN bE ah au=>by simp[step,ah.aK (x:=c) (λt aC=>az3 _ (az3 _ aC)),ah.aK (x:=x) (λt aC=>az3 _ (aAf _ aC)),ah.aK (x:=y) (λt aC=>aAf _ aC),hG,aA1,azL,az7,↓reduceIte,aAw, *]
  |exact .set rfl rfl rfl h.2 λaN bE ah au=>axP
  |exact .set rfl rfl rfl h.2.2 λaN bE ah au=>by have h1:=h.1;have h2:=h.2.1;simp
theorem af9{d:Nat}{x:O}:fW P gl (.vK d x):=by
 intro st K h;simp[step]at h;repeat' split at h
 all_goals first
  |exact h.elim
  |exact h.2.elim
  |exact .set rfl rfl rfl h λaN bE ah au=>axZ
  |exact .set rfl rfl rfl h.2 λaN bE ah au=>by have h1:=h.1;simp
  |exact .set rfl rfl rfl h.2.2 λaN bE ah au=>by have h1:=h.1;have h2:=h.2.1;simp
theorem af'{d:Nat}{op:BinOp}{x y:O}:fW P gl (.bi d op x y):=by
 intro st K h;simp[step]at h;repeat' split at h
 all_goals first
  |exact h.elim
  |exact h.2.elim
  |exact .set rfl rfl rfl h λaN bE ah au=>axt
  |exact .set rfl rfl rfl h.2 λaN bE ah au=>ayr
  |exact .set rfl rfl rfl h.2.2 λaN bE ah au=>by have h1:=h.1;have h2:=h.2.1;simp[step,ah.aK (x:=x) (λt aC=>az3 _ aC),ah.aK (x:=y) (λt aC=>aAf _ aC),hG,aA1,azL,az7,↓reduceIte,aAw, *]
theorem aga{d:Nat}{neg ah:Bool}{ks:List Nat}{x y:O}:fW P gl (.eq d neg ah ks x y):=by
 intro st K h;simp[step]at h;repeat' split at h
 all_goals first
  |exact h.elim
  |exact h.2.elim
  |exact .set rfl rfl rfl h λaN bE ah au=>axt
  |exact .set rfl rfl rfl h.2 λaN bE ah au=>ayr
  |exact .set rfl rfl rfl h.2.2 λaN bE ah au=>axE
theorem agb{d:Nat}{op:UnOp}{x:O}:fW P gl (.un d op x):=by
 intro st K h;simp only[step]at h;repeat' split at h
 all_goals first
  |exact h.elim
  |exact h.2.elim
  |exact .set rfl rfl rfl h λaN bE ah au=>by simp only[step,ah.aK (x:=x) (λt aC=>aC),hG,aA1,azL,az7,↓reduceIte,aAw, *]
  |exact .set rfl rfl rfl h.2 λaN bE ah au=>axP
  |exact .set rfl rfl rfl h.2.2 λaN bE ah au=>axE
theorem agc{d:Nat}{k:IntKind}{x:O}:fW P gl (.ci d k x):=by
 intro st K h;simp[step]at h;repeat' split at h
 all_goals first
  |exact h.elim
  |exact h.2.elim
  |exact .set rfl rfl rfl h λaN bE ah au=>axZ
  |exact .set rfl rfl rfl h.2 λaN bE ah au=>axP
  |exact .set rfl rfl rfl h.2.2 λaN bE ah au=>axE
theorem agd{d:Nat}{x:O}:fW P gl (.cs d x):=by
 intro st K h;simp[step]at h;repeat' split at h
 all_goals first
  |exact h.elim
  |exact h.2.elim
  |exact .set rfl rfl rfl h λaN bE ah au=>axZ
  |exact .set rfl rfl rfl h.2 λaN bE ah au=>axP
  |exact .set rfl rfl rfl h.2.2 λaN bE ah au=>axE
theorem age{d:Nat}{x:O}:fW P gl (.h3 d x):=by
 intro st K h;simp[step]at h;repeat' split at h
 all_goals first
  |exact h.elim
  |exact h.2.elim
  |exact .set rfl rfl rfl h λaN bE ah au=>axZ
  |exact .set rfl rfl rfl h.2 λaN bE ah au=>axP
  |exact .set rfl rfl rfl h.2.2 λaN bE ah au=>axE
theorem agf{d:Nat}{x:O}:fW P gl (.bs d x):=by
 intro st K h;simp[step]at h;repeat' split at h
 all_goals first
  |exact h.elim
  |exact h.2.elim
  |exact .set rfl rfl rfl h λaN bE ah au=>axZ
  |exact .set rfl rfl rfl h.2 λaN bE ah au=>axP
  |exact .set rfl rfl rfl h.2.2 λaN bE ah au=>axE
theorem agh{d:Nat}{x:O}{off:Nat}:fW P gl (.gF d x off):=by
 intro st K h;simp[step]at h;repeat' split at h
 all_goals first
  |exact h.elim
  |exact h.2.elim
  |exact .set rfl rfl rfl h λaN bE ah au=>axZ
  |exact .set rfl rfl rfl h.2 λaN bE ah au=>axP
  |exact .set rfl rfl rfl h.2.2 λaN bE ah au=>axE
theorem agi{d:Nat}{x:O}{off n:Nat}{ah:Bool}:fW P gl (.fd d x off n ah):=by
 intro st K h;all_goals first
  |exact h.elim
  |exact h.2.elim
  |exact .set rfl rfl rfl h λaN bE ah au=>axt
  |exact .set rfl rfl rfl h.2 λaN bE ah au=>azi
  |exact .set rfl rfl rfl h.2.2 λaN bE ah au=>axE
theorem agj{d:Nat}{x y:O}{sz:Nat}:fW P gl (.lF d x y sz):=by
 intro st K h;simp only[step]at h;repeat' split at h
 all_goals first
  |exact h.elim
  |exact h.2.elim
  |exact .set rfl rfl rfl h λaN bE ah au=>axt
  |exact .set rfl rfl rfl h.2 λaN bE ah au=>azj
  |exact .set rfl rfl rfl h.2.2 λaN bE ah au=>axE
theorem agk{d:Nat}{x y:O}{len sz:Nat}:fW P gl (.aa d x y len sz):=by
 intro st K h;simp[step]at h;repeat' split at h
 all_goals first
  |exact h.elim
  |exact h.2.elim
  |exact .set rfl rfl rfl h λaN bE ah au=>axt
  |exact .set rfl rfl rfl h.2 λaN bE ah au=>ayr
  |exact .set rfl rfl rfl h.2.2 λaN bE ah au=>axE
theorem agl{d:Nat}{x y:O}:fW P gl (.ma d x y):=by
 intro st K h;simp only[step]at h;repeat' split at h
 all_goals first
  |exact h.elim
  |exact h.2.elim
  |exact .set rfl rfl rfl h λaN bE ah au=>axt
  |exact .set rfl rfl rfl h.2 λaN bE ah au=>azj
  |exact .set rfl rfl rfl h.2.2 λaN bE ah au=>axE
theorem agm{d:Nat}{x:O}:fW P gl (.em d x):=by
 intro st K h;simp[step]at h;repeat' split at h
 all_goals first
  |exact h.elim
  |exact h.2.elim
  |exact .set rfl rfl rfl h λaN bE ah au=>axZ
  |exact .set rfl rfl rfl h.2 λaN bE ah au=>axP
  |exact .set rfl rfl rfl h.2.2 λaN bE ah au=>axE
theorem agn{d:Nat}{str:Bool}{x:O}:fW P gl (.mP d str x):=by
 intro st K h;simp[step]at h;repeat' split at h
 all_goals first
  |exact h.elim
  |exact h.2.elim
  |exact .set rfl rfl rfl h λaN bE ah au=>axt
  |exact .set rfl rfl rfl h.2 λaN bE ah au=>azi
  |exact .set rfl rfl rfl h.2.2 λaN bE ah au=>axE
theorem ago{d:Nat}{x:O}{j:Nat}:fW P gl (.ex d x j):=by
 intro st K h;simp only[step]at h;repeat' split at h
 all_goals first
  |exact h.elim
  |exact h.2.elim
  |exact .set rfl rfl rfl h λaN bE ah au=>axt
  |exact .set rfl rfl rfl h.2 λaN bE ah au=>by have h1:=h.1;simp only[step,ah.aK (x:=x) (λt aC=>aC),hG,aA1,azL,az7,↓reduceIte,aAw, *]
  |exact .set rfl rfl rfl h.2.2 λaN bE ah au=>axE
theorem agp{d:Nat}{lt:Bool}{x y:O}:fW P gl (.p2 d lt x y):=by
 intro st K h;simp[step]at h;repeat' split at h
 all_goals first
  |exact h.elim
  |exact h.2.elim
  |exact .set rfl rfl rfl h λaN bE ah au=>axt
  |exact .set rfl rfl rfl h.2 λaN bE ah au=>ayr
  |exact .set rfl rfl rfl h.2.2 λaN bE ah au=>axE
theorem agq{d:Nat}{x y:O}{len sz:Nat}{ah:Bool}:fW P gl (.vM d x y len sz ah):=by
 intro st K h;simp[step]at h;repeat' split at h
 all_goals first
  |exact h.elim
  |exact h.2.elim
  |exact .set rfl rfl rfl h λaN bE ah au=>axt
  |exact .set rfl rfl rfl h.2 λaN bE ah au=>ayr
  |exact .set rfl rfl rfl h.2.2 λaN bE ah au=>axE
theorem agr{d:Nat}{q:Nat}{x y:O}:fW P gl (.b7 d q x y):=by
 intro st K h;simp[step]at h;repeat' split at h
 all_goals first
  |exact h.elim
  |exact h.2.elim
  |exact .set rfl rfl rfl h λaN bE ah au=>by simp[step,ah.aK (x:=x) (λt aC=>az3 _ aC),ah.aK (x:=y) (λt aC=>aAf _ aC),hG,aA1,azL,az7,↓reduceIte,aAw, *]
  |exact .set rfl rfl rfl h.2 λaN bE ah au=>axP
  |exact .set rfl rfl rfl h.2.2 λaN bE ah au=>axE
theorem ox.bound{i:I}{st aN:af}(h:ox i st aN){x:Option O}{n:Int}(ak:∀t,t∈xY x->t∈i.rd):aJ.bound gl aN n x=aJ.bound gl st n x:=by
 cases x with
 |none=>rfl
 |some x=>simp[aJ.bound,h.aK (x:=x) ak]
theorem ox.elems{i:I}{st aN:af}(h:ox i st aN){sz:Nat}:∀{xs:List O},(∀t,t∈oX xs->t∈i.rd)->aJ.elems gl aN sz xs=aJ.elems gl st sz xs
 |[],_=>rfl
 |x::xs,ak=>by
  simp[aJ.elems,h.aK (x:=x) (λt aC=>ak t (by grind[oX])),h.elems (xs:=xs) (λt aC=>ak t (by grind[oX]))]
theorem ox.oY{i:I}{st aN:af}(h:ox i st aN):∀{ps:List (Nat×Nat×O)} {cs:List ag},(∀t,t∈(ps.flatMap λq=>q.2.2.slots)->t∈i.rd)->aJ.oY gl aN cs ps=aJ.oY gl st cs ps
 |[],_,_=>rfl
 |(off,n,x)::ps,cs,ak=>by
  simp[aJ.oY,h.aK (x:=x) (λt aC=>ak t axv)];cases (Nat.beq (cellsOf (cE (snap (aJ.aK gl st x)))).length n&&Nat.ble (off+n) cs.length&&(cellsOf (cE (snap (aJ.aK gl st x)))).all (dU depth))with
  |true=>exact h.oY λt aC=>ak t axu
  |false=>rfl
theorem ox.map{i:I}{st aN:af}(h:ox i st aN){β:Type}{f:ag->β}:∀{xs:List O},(∀t,t∈oX xs->t∈i.rd)->(xs.map λx=>f (aJ.aK gl aN x))=xs.map λx=>f (aJ.aK gl st x)
 |[],_=>rfl
 |x::xs,ak=>by
  simp[aAh,h.aK (x:=x) (λt aC=>ak t (by grind[oX])),h.map (xs:=xs) (λt aC=>ak t (by grind[oX]))]
theorem ags{d:Nat}{x:O}{lo hi:Option O}:fW P gl (.ss d x lo hi):=by
 intro st K h;simp[step]at h;repeat' split at h
 all_goals first
  |exact h.elim
  |exact .set rfl rfl rfl h.2 λaN bE ah au=>by
    have h1:=h.1;have aj:=ah.aK (gl:=gl) (x:=x) (λt aC=>az3 _ (az3 _ aC));have aD:=λn=>ah.bound (gl:=gl) (x:=lo) (n:=n) (λt aC=>az3 _ (aAf _ aC));have aW:=λn=>ah.bound (gl:=gl) (x:=hi) (n:=n) (λt aC=>aAf _ aC);simp_all[step,hG]
theorem agt{d sz:Nat}{x:O}{lo hi mx:Option O}:fW P gl (.aS d sz x lo hi mx):=by
 intro st K h;simp[step]at h;repeat' split at h
 all_goals first
  |exact h.elim
  |exact .set rfl rfl rfl h.2 λaN bE ah au=>by
    have h1:=h.1;have aj:=ah.aK (gl:=gl) (x:=x) (λt aC=>az3 _ (az3 _ (az3 _ aC)));have aD:=λn=>ah.bound (gl:=gl) (x:=lo) (n:=n) (λt aC=>az3 _ (az3 _ (aAf _ aC)));have aW:=λn=>ah.bound (gl:=gl) (x:=hi) (n:=n) (λt aC=>az3 _ (aAf _ aC));have bQ:=λn=>ah.bound (gl:=gl) (x:=mx) (n:=n) (λt aC=>aAf _ aC);simp_all[step,hG]
theorem agu{d sz:Nat}{xs:List O}:fW P gl (.li d sz xs):=by
 intro st K h;simp[step]at h;split at h
 .exact .set rfl rfl rfl h λaN bE ah au=>by simp[step,ah.elems (gl:=gl) (sz:=sz) (xs:=xs) (λt aC=>aC), *]
 .exact h.elim
theorem agv{d:Nat}{z:List ag}{ps:List (Nat×Nat×O)}:fW P gl (.vJ d z ps):=by
 intro st K h;simp[step]at h;split at h
 .exact .set rfl rfl rfl h λaN bE ah au=>by simp[step,ah.oY (gl:=gl) (ps:=ps) (cs:=z) (λt aC=>aC), *]
 .exact h.elim
theorem agw{d f:Nat}{xs ws:List O}:fW P gl (.vL d f xs ws):=by
 intro st K h;cases xs with
 |nil=>cases ws with
  |nil=>exact .set rfl rfl rfl h λaN bE ah au=>au
  |cons y ys=>
   exact .set rfl rfl rfl h.2 λaN bE ah au=>by
    have h1:=h.1;simp only[step,ah.map (gl:=gl) (f:=λv=>cE (snap v)) (xs:=[]) (λt aC=>az3 _ aC),ah.map (gl:=gl) (f:=λv=>cE (snap v)) (xs:=y::ys) (λt aC=>aAf _ aC)];exact⟨h1,au⟩
 |cons x xs=>
  exact .set rfl rfl rfl h.2 λaN bE ah au=>by
   have h1:=h.1;simp only[step,ah.map (gl:=gl) (f:=λv=>cE (snap v)) (xs:=x::xs) (λt aC=>az3 _ aC),ah.map (gl:=gl) (f:=λv=>cE (snap v)) (xs:=ws) (λt aC=>aAf _ aC)];exact⟨h1,au⟩
theorem agx{d t off n:Nat}{ah:Bool}{x:O}:fW P gl (.hN d x t off n ah):=by
 intro st K h;simp[step]at h;split at h
 .exact .set rfl rfl rfl h.2 λaN bE uM au=>by
   have h1:=h.1;have aj:=uM.aK (gl:=gl) (x:=x) (λt aC=>aC);have aD:=uM.bI t ayf;simp_all[step,hG]
 .exact h.elim
theorem agy{d hk:Nat}{neg:Bool}{x:O}(sX:Nat.beq hk 0=false):fW P gl (.mb d neg hk x):=by
 intro st K h;match hk,sX with
 |0,sX=>simp_all
 |1,_|2,_|3,_|4,_=>
  simp[step]at h;repeat' split at h
  all_goals first
   |exact h.elim
   |exact .set rfl rfl rfl h λaN bE ah au=>by simp[step,ah.aK (x:=x) (λt aC=>aC), *]
 |n+5,_=>exact h.elim
theorem agz{d:Option Nat}{f:Nat}{xs:List O}:fW P gl (.p3 d f xs):=by
 intro st K h;obtain⟨h1,r,s',h2,av,aZ⟩:=h;have mu:∀aN (bE:af->Prop),ox (.p3 d f xs) st aN->bE (aN.dA d r)->step (bz P gl) gl (.p3 d f xs) aN bE:=λaN bE ah au=>by
  simp only[step,ah.map (gl:=gl) (f:=λv=>cE (snap v)) (xs:=xs) (λt aC=>aC)];exact⟨h1,r,s',h2,av,au⟩
 cases d with
 |some d=>exact .set rfl rfl rfl aZ mu
 |none=>exact⟨st,aZ,λ_ _=>rfl,λ_ _=>rfl,λ_=>rfl,λaN bE ah au=>mu aN bE ah au⟩
theorem agA{d:Option Nat}:fW P gl (.bad d):=by
 intro st K h;exact h.elim
theorem agB{d:Option Nat}:fW P gl (.lG d):=by
 intro st K h;cases d with
 |none=>exact⟨_,h,λ_ _=>rfl,λ_ _=>rfl,λ_=>rfl,λaN bE ah au=>by
   have:mix (.lG none) aN (st.dA none .undef)=aN.dA none .undef:=ti (λt=>by simp[I.wr,I.hw,I.kl,I.dst,af.dA]) (λt=>by simp[I.gI,af.dA]) (by simp[I.ws,af.dA]);exact au⟩
 |some d=>exact .set rfl rfl rfl h λaN bE ah au=>au
theorem agC{d s z i sz b2:Nat}{x:O}:fW P gl (.kF d s z i x sz b2):=by
 intro st K h;simp[step]at h;split at h
 .rename_i ej l dw afK k n kH aj aD aW bQ;refine⟨_,h.2,λt aC=> ?_,λ_ _=>rfl,λ_=>rfl,λaN bE ah au=> ?_⟩
  .simp[I.wr,I.hw,I.kl,I.dst,aBa,aBb,aBf,aAO,azY,aAi,aAR,not_or]at aC;simp[af.set,df,aC.1,aC.2,az4]
  .have f1:=ah.aP s (by simp[I.rd]);have f2:=ah.aP z (by simp[I.rd]);have f3:=ah.aP i (by simp[I.rd]);have f4:=ah.aK (gl:=gl) (x:=x) (λt aC=>by grind[I.rd]);have:mix (.kF d s z i x sz b2) aN ((st.set s .undef).set d (.own sz (l++[kH])))=(aN.set s .undef).set d (.own sz (l++[kH])):=by
    refine ti (λt=> ?_) (λt=>rfl) rfl;simp[I.wr,I.hw,I.kl,I.dst,aBa,aBb,aBf,aAO,azY,aAi,aAR,af.set,df];grind
   have h1:=h.1;simp_all[step,hG]
 .exact h.elim
theorem rP(st:af)(x:O):(kill st x).bI=st.bI:=by
 rcases vW st x with⟨h,_⟩|⟨s,_,h,_⟩<;>rw[h]<;>rfl
theorem uN(st:af)(x:O):(kill st x).s=st.s:=by
 rcases vW st x with⟨h,_⟩|⟨s,_,h,_⟩<;>rw[h]<;>rfl
theorem II{st:af}{x:O}{t:Nat}(h:t∉x.slots):(kill st x).aP t=st.aP t:=by
 rcases vW st x with⟨cG,_⟩|⟨s,rfl,cG,_⟩
 all_goals simp_all[O.slots,af.set,df]
theorem O4{st aN:af}{x:O}{t:Nat}(h:t∈x.slots)(aC:aN.aP t=st.aP t):(kill aN x).aP t=(kill st x).aP t:=by
 cases x with
 |t s=>
  simp[O.slots,az9]at h;subst h;simp[kill];rw[aC];cases st.aP t<;>simp[aC,af.set,hQ]
 |c v=>grind[O.slots]
 |g n=>grind[O.slots]
theorem O5{st aN:af}{x:O}{t:Nat}(aC:t∈x.slots->aN.aP t=st.aP t):(if t∈x.slots then(kill st x).aP t else aN.aP t)=(kill aN x).aP t:=by
 grind[O4,II]
theorem agD{d s:Nat}:fW P gl (.hb d s):=by
 intro st K h;refine⟨_,h,λt aC=> ?_,λ_ _=>rfl,λ_=>rfl,λaN bE ah au=> ?_⟩
 .simp_all[I.wr,I.hw,I.kl,I.dst,af.set,df]
 .have e:=ah.aP s (by simp[I.rd]);have:mix (.hb d s) aN ((st.set s .undef).set d (st.aP s))=(aN.set s .undef).set d (aN.aP s):=by
   refine ti (λt=> ?_) (λt=>rfl) rfl;simp[I.wr,I.hw,I.kl,I.dst,aBa,aBf,aAO,azY,aAi,aAR,af.set,df,e];grind
  rw[this]at au;exact au
theorem agE{d:Nat}{x:O}:fW P gl (.eZ d x):=by
 intro st K h;refine⟨_,h,λt aC=> ?_,λ_ _=>by simp[af.set,rP],λ_=>by simp[af.set,uN],λaN bE ah au=> ?_⟩
 .simp_all[I.wr,I.hw,I.kl,I.dst,af.set,df,II]
 .have e:=ah.aK (gl:=gl) (x:=x) (λt aC=>aC);have:mix (.eZ d x) aN ((kill st x).set d (aK gl st x))=(kill aN x).set d (aK gl aN x):=by
   refine ti (λt=> ?_) (λt=>by simp[af.set,rP,I.gI]) (by simp[af.set,uN,I.ws]);simp[I.wr,I.hw,I.kl,I.dst,aBa,aBf,aAO,azY,af.set,df,e];by_cases h1:t=d
   .grind
   .simp[h1,false_or,az4];exact O5 (ah.aP t)
  rw[this]at au;exact au
theorem agF{d:Nat}{z:List ag}:fW P gl (.kE d z):=by
 intro st K h;simp[step]at h;split at h
 .rename_i aj;refine⟨_,h,λt aC=> ?_,λt aC=> ?_,λ_=>rfl,λaN bE ah au=> ?_⟩
  .simp_all[I.wr,I.hw,I.dst,af.set,af.dX,df]
  .simp_all[I.gI,af.set,af.dX,df]
  .have e:=ah.bI d ayf;have:mix (.kE d z) aN ((st.dX d z).set d (.dT d 0))=(aN.dX d z).set d (.dT d 0):=by
    refine ti (λt=> ?_) (λt=> ?_) rfl;all_goals simp_all[I.wr,I.hw,I.kl,I.dst,af.set,af.dX,df,I.gI]
   simp_all[step]
 .exact h.elim
theorem agG{d n:Nat}{x:O}:fW P gl (.fO d x n):=by
 intro st K h;simp[step]at h;split at h
 .rename_i aj;refine⟨_,h.2,λt aC=> ?_,λt aC=> ?_,λ_=>rfl,λaN bE ah au=> ?_⟩
  .simp_all[I.wr,I.hw,I.dst,af.set,af.dX,df]
  .simp_all[I.gI,af.set,af.dX,df]
  .have e:=ah.bI d ayf;have e':=ah.aK (gl:=gl) (x:=x) (λt aC=>aC);have:mix (.fO d x n) aN ((st.dX d (cellsOf (gJ (aK gl st x)))).set d (.dT d 0))=(aN.dX d (cellsOf (gJ (aK gl st x)))).set d (.dT d 0):=by
    refine ti (λt=> ?_) (λt=> ?_) rfl;all_goals simp_all[I.wr,I.hw,I.kl,I.dst,af.set,af.dX,df,I.gI]
   rw[this]at au;have h1:=h.1;simp[step,e,e',aj];exact⟨h1,au⟩
 .exact h.elim
theorem agH{d t off:Nat}{x:O}:fW P gl (.lt d x t off):=by
 intro st K h;simp only[step]at h;split at h
 .rename_i ek dI cs aj aD;refine⟨_,h.2,λu hu=> ?_,λu hu=> ?_,λ_=>rfl,λaN bE ah au=> ?_⟩
  .simp_all[I.wr,I.hw,I.dst,af.set,af.dX,df]
  .simp_all[I.gI,af.set,af.dX,df]
  .have e:=ah.bI t ayf;have e':=ah.aK (gl:=gl) (x:=x) (λt aC=>aC);have:mix (.lt d x t off) aN ((st.dX t (cs.set off .undef)).set d (cs.getD off .undef))=(aN.dX t (cs.set off .undef)).set d (cs.getD off .undef):=by
    refine ti (λu=> ?_) (λu=> ?_) rfl;all_goals simp_all[I.wr,I.hw,I.kl,I.dst,af.set,af.dX,df,I.gI]
   rw[this]at au;have h1:=h.1;simp[step,e,e',aj,aD];exact⟨h1,au⟩
 .exact h.elim
theorem agI{t off n:Nat}{x y:O}:fW P gl (.ls x t off y n):=by
 intro st K h;simp[step]at h;split at h
 .rename_i ek dI cs aj aD;refine⟨_,h.2,λu hu=> ?_,λu hu=> ?_,λ_=>by simp[af.dX,uN],λaN bE ah au=> ?_⟩
  .simp_all[I.wr,I.kl,af.dX,II]
  .simp_all[I.gI,af.dX,df,rP]
  .have e:=ah.bI t ayf;have e':=ah.aK (gl:=gl) (x:=x) (λt aC=>az3 _ aC);have Bp:=ah.aK (gl:=gl) (x:=y) (λt aC=>aAf _ aC);have:mix (.ls x t off y n) aN ((kill st y).dX t (putCells cs off (cellsOf (aK gl st y))))=(kill aN y).dX t (putCells cs off (cellsOf (aK gl st y))):=by
    refine ti (λu=> ?_) (λu=> ?_) (by simp[af.dX,uN,I.ws])
    .exact O5 λhu=>ah.aP u (aAf _ hu)
    simp_all[I.gI,af.dX,df,rP]
   rw[this]at au;have h1:=h.1;simp[step,e,e',Bp,aj,aD];exact⟨h1,au⟩
 .exact h.elim
theorem agJ{i:I}(h:ra i=false)(aw:i.rs=false):fW P gl i:=by
 cases i with
 |cS=>exact af7
 |hb=>exact agD
 |eZ=>exact agE
 |ei=>exact af8
 |kE=>exact agF
 |fO=>exact agG
 |vJ=>exact agv
 |li=>exact agu
 |hN=>exact agx
 |lt=>exact agH
 |ls=>exact agI
 |vK=>exact af9
 |bi=>exact af'
 |eq=>exact aga
 |un=>exact agb
 |ci=>exact agc
 |cs=>exact agd
 |h3=>exact age
 |bs=>exact agf
 |gF=>exact agh
 |fd=>exact agi
 |lF=>exact agj
 |aa=>exact agk
 |ma=>exact agl
 |ss=>exact ags
 |aS=>exact agt
 |em=>exact agm
 |vL=>exact agw
 |mP=>exact agn
 |ex=>exact ago
 |p2=>exact agp
 |b7=>exact agr
 |mb=>exact agy h
 |p3=>exact agz
 |bad=>exact agA
 |lG=>exact agB
 |kF=>exact agC
 |vM=>exact agq
 |so=>grind[ra]
 |_=>grind[I.rs]
end
end Go.aJ
