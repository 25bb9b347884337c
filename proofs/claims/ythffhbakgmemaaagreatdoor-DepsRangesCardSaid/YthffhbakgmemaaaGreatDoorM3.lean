/- Part of ranges_said. -/
import Derived.Test.YthffhbakgmemaaaGreatDoorM2
import Derived.Deep.LoopGhost
set_option linter.defProp false
set_option maxRecDepth 100000
set_option maxHeartbeats 8000000
set_option linter.unusedSimpArgs false
set_option linter.unusedVariables false
namespace Go.aH
variable {p:Prop}
def aA4:=@List.getElem?_map
section
variable {P:Program}{gl:Nat->List D}{n0 nt:Nat}{a:Act}{w w':World}{G G':bI}{ρ ρ':List Nat}{lam lam':Nat->Option Nat}{st aT:ag}{K:ag->Prop}{o:Oper}{Q:Exit->Act->World->Prop}
theorem agh{d t:Nat}(p:bT n0 gl nt w G ρ lam a st)(a8:o.dst=some d)(bu:d<nt)(bz:o.op=.makeMap t none)
  (hs:step (bx P gl) gl (.mm d) st K):o.wp P a w (cJ n0 gl nt w G ρ K) Q:=by
 have ax:(execOp a.eval o).run P w=.ok (.value (.map (some w.heap.size))) {w with heap:=w.heap.push (.map #[] 0)}:=by
  simp_all[execOp,Instr.makeMap]
 have hw:gD w (.map #[] 0) {w with heap:=w.heap.push (.map #[] 0)}:=⟨rfl,rfl,rfl⟩;refine gb ax (kV p.eO (put_defers _ _ _) ax5 _ (ρ++[w.heap.size+1]) lam _ ?_ (hw.good p.rel.lt (L0:=.obj st.s.length) (n0:=0) axX) iE hs);rw[a8];have w2:(ρ++[w.heap.size+1])[st.s.length]?=some (w.heap.size+1):=ayp;refine p.rel.y9 hw (aAI bu p.sz) ⟨#[],0,hw.new,ayl,rfl,axX⟩ (.map _ _ w2)
theorem agi{t:Nat}{x:ah}(h:zeroV P t=some x):∃v,(∀w:World,(zeroValue t).run P w=.ok v w)/\∀{w:World} {G:bI} {ρ:List Nat},df w G ρ v x:=by
 unfold zeroV at h;split at h
 .rename_i zs ai v _ _ hv;cases hi:P.info? t with
  |none=>simp_all
  |some i=>
   rw[hi]at hv;split at h;all_goals simp_all[rW,HQ]
 simp_all
theorem O5{ks:List Nat}{x:D}(h:(cA ks x.cells x.cells).isSome=true):x.cells.length=ks.length:=by
 obtain⟨r,ax⟩:=Option.isSome_iff_exists.1 h;exact(yZ ax).1
theorem O6{fr:Nat}{ks:List Nat}{ai:Bool}{u:Value}{k:D}(dB:gp P fr=ai)(hu:Rd w G u k)(bp:fe ai k=true)(aI:k.cells.length=ks.length):∃vs,vs.length=ks.length/\shaped P fr vs u:=by
 obtain⟨vs,h1,sh,_⟩:=hu.cells bp;exact⟨vs,by rw[h1.length,aI],by grind[shaped]⟩
theorem di.au9{v:Value}{x:D}{L:Loc}(h:di w G ρ lam L v (.d x)):df w G ρ v (.d x):=.d _ _ h.iV
theorem agj{d t fr nV t1:Nat}{ai ok:Bool}{ks:List Nat}{x k:Operand}{bA k':O}{z:ah}(p:bT n0 gl nt w G ρ lam a st)(a8:o.dst=some d)(bu:d<nt)(bz:o.op=.lookup t x k ok)(ak:bO P t1 x=some bA)(aq:bO P fr k=some k')
  (hu:P.underlying t=some (.map fr nV)) (aO:zeroV P nV=some z) (j4:kinds P 10 fr=some ks) (dB:gp P fr=ai)
  (hs:step (bx P gl) gl (.aJ d ai ks bA k' z ok) st K):o.wp P a w (cJ n0 gl nt w G ρ K) Q:=by
 obtain⟨fB,h1⟩:=dQ ak p.rel;obtain⟨jd,sh⟩:=dQ aq p.rel;obtain⟨eg,agk,agl⟩:=agi aO;simp[step]at hs;split at hs
 .exact hs.elim
 .rename_i ho hD;obtain⟨aC,hs⟩:=hs;simp at aC;have r8:=sh.hq hD;obtain⟨vs,oJ,xd⟩:=O6 (P:=P) dB r8 aC.1 (O5 aC.2);have ze:∀em,(Instr.checkKey em 10000 fr (a.eval k)).run P w=.ok () w:=λem=>Iw em 10 10000 fr ks vs _ j4 ax0 oJ xd;have zf:∀(es:Array MapEntry),((a.eval x=.map none/\es= #[])\/∃r clock,a.eval x=.map (some r)/\w.heap[r]?=some (.map es clock))->(Instr.findKey fr (a.eval k) es.toList).run P w=.ok none w->
    K (st.set d (cond ok (.tuple [cT z,.d (.bool false)]) (cT z)))->o.wp P a w (cJ n0 gl nt w G ρ K) Q:=by
   intro es zg bh ao;refine p.value a8 bu (v:=if ok then .tuple #[eg,.bool false]else eg) ?_ (.cp ?_) ao
   .rcases zg with⟨hm,rfl⟩|⟨r,clock,hm,ct⟩
    .simp_all[execOp,Instr.lookup,eV]
    .have mG:(getObj r).run P w=.ok (.map es clock) w:=by grind[getObj,Sem.run]
     simp[execOp,bz,Instr.lookup,aAm,eV hu,aAo,hm,mG,aAv,ze,bh,agk]
   .have hA:=(agl (w:=w) (G:=G) (ρ:=ρ)).cT;cases ok with
    |true=>exact .tuple [eg,.bool false] _ (.cons _ _ _ _ hA (.cons _ _ _ _ (.d _ _ (.bool false)) .nil))
    |false=>grind
  split at hs
  .rename_i aj;rw[aj]at h1;have cw:=h1.iV;cases cc:a.eval x<;>rw[cc]at cw<;>cases cw;exact zf #[] (.inl ⟨cc,rfl⟩) (by
    have:=zd (P:=P) (ρ:=ρ) j4 dB r8 aC.1 (mes:=[]) (es:=[]) (r:=none) .nil rfl;exact this) hs
  .rename_i kl vl aj;rw[aj]at h1;have cw:=h1.iV;generalize cc:a.eval x=v1 at cw;cases cw with
   |ln b td tf kw agm _ _ hm aq hv BF=>
    obtain⟨mes,clock,⟨_,_,m1⟩,rfl,rfl⟩:=hm;have BG:=aq.length;have jm:=hv.length;obtain⟨BH,dR⟩:=BF ai ks ho;have xe:zc w G ρ mes.toList (yT kw agm):=by
     refine Ix axY λj e pp he hp=> ?_;rw[aA4,aA0]at hp;obtain⟨q,aS,rfl⟩:=hp;obtain⟨Iy,tE⟩:=List.getElem?_zip_eq_some.1 aS;have EB:mes.toList[j]?=some e:=axY;exact⟨aq.get axY Iy,.d _ _ (hv.get axY tE)⟩
    split at hs
    .rename_i bh;have:=zd (P:=P) j4 dB r8 aC.1 xe (BH bh);exact zf mes (.inr ⟨b,clock,cc,m1⟩) this hs
    .rename_i j bh;split at hs
     .rename_i agn Iz;obtain⟨j,bh,he⟩:=dR _ _ bh Iz;have r9:=zd (P:=P) j4 dB r8 aC.1 xe bh;have ep:j<mes.size:=axZ;have xf:foundAt mes.toList 0 (some j)=some (j,mes[j].val):=by grind[foundAt]
      rw[xf]at r9;have mG:(getObj b).run P w=.ok (.map mes clock) w:=by grind[getObj,Sem.run]
      refine p.value a8 bu (v:=if ok then .tuple #[mes[j].val,.bool true]else mes[j].val) ?_ (.cp ?_) hs
      .simp[execOp,bz,Instr.lookup,aAm,eV hu,aAo,cc,mG,aAv,ze,r9]
      .have hA:df w G ρ mes[j].val (.d agn):=.d _ _ (hv.get axZ he);cases ok with
       |true=>exact .tuple [_,.bool true] _ (.cons _ _ _ _ hA (.cons _ _ _ _ (.d _ _ (.bool true)) .nil))
       |false=>grind
     .exact hs.elim
    .exact hs.elim
  .rename_i i aj;rw[aj]at h1;have cw:df w G ρ (a.eval x) (.map i):=h1;cases cc:a.eval x<;>rw[cc]at cw<;>cases cw;rename_i b au;split at hs
   .rename_i es aF;have IA:kv w G ρ i b (.map es):=azo;obtain⟨mes,clock,m1,m2,m3,m4⟩:=IA;have xe:=Ix m3 m4;split at hs
    .rename_i bh;have:=zd (P:=P) j4 dB r8 aC.1 xe bh;exact zf mes (.inr ⟨b,clock,cc,m1⟩) this hs
    .rename_i j bh;split at hs
     .rename_i e he;have r9:=zd (P:=P) j4 dB r8 aC.1 xe bh;have ep:j<mes.size:=axZ;have zh:mes[j]?=some mes[j]:=axX;have xf:foundAt mes.toList 0 (some j)=some (j,mes[j].val):=by grind[foundAt]
      rw[xf]at r9;have mG:(getObj b).run P w=.ok (.map mes clock) w:=by grind[getObj,Sem.run]
      refine p.value a8 bu (v:=if ok then .tuple #[mes[j].val,.bool true]else mes[j].val) ?_ (.cp ?_) hs
      .simp[execOp,bz,Instr.lookup,aAm,eV hu,aAo,cc,mG,aAv,ze,r9]
      .have hA:=(m4 j _ _ zh he).2;cases ok with
       |true=>exact .tuple [_,.bool true] _ (.cons _ _ _ _ hA (.cons _ _ _ _ (.d _ _ (.bool true)) .nil))
       |false=>grind
     .exact hs.elim
    .exact hs.elim
   .exact hs.elim
  .exact hs.elim
theorem IB(n:Nat):∀{ks:List Nat} {xs ys:List D} {us vs:List Value},cA ks xs ys=some true->cl w G us xs->cl w G vs ys->us.length=vs.length/\(us.zip vs).all (λp=>Instr.sameBits n p.1 p.2)=true
 |[],[],[],us,vs,_,h1,sh=>by cases h1;cases sh;simp
 |[],[],_::_,_,_,h,_,_=>ayg
 |[],_::_,_,_,_,h,_,_=>ayg
 |_::_,[],_,_,_,h,_,_=>ayg
 |_::_,_::_,[],_,_,h,_,_=>ayg
 |k::ks,x::xs,y::ys,us,vs,h,h1,sh=>by
  cases h1 with
  |cons u _ us _ hu lu=>
   cases sh with
   |cons v _ vs _ hv jk=>
    have key:cA ks xs ys=some true/\Instr.sameBits n u v=true:=by
     unfold cA at h;split at h
     .rename_i p q;cases he:cA ks xs ys<;>simp[he]at h;cases hu;cases hv;grind[Instr.sameBits]
     .rename_i i p j q;cases aY:decide (i=j)with
      |false=>simp_all
      |true=>
       cases he:cA ks xs ys<;>simp[aY,he]at h;cases hu;cases hv;grind[Instr.sameBits]
     .rename_i p q;cases he:cA ks xs ys<;>simp[he]at h;obtain⟨rfl,rfl⟩:=h;cases hu with|str s1 _ q1=>cases hv with|str s2 _ bF=>
       refine⟨rfl,?_⟩;have:s1=s2:=by
        have av:=q1.trans bF.symm;obtain⟨⟨a⟩⟩:=s1;obtain⟨⟨b⟩⟩:=s2;simp_all
       grind[beq_toListBytes,Instr.sameBits]
     simp_all
    obtain⟨l1,l2⟩:=IB n key.1 lu jk;simp_all
theorem ago{ai:Bool}{ks:List Nat}{u v:Value}{x y:D}(ak:Rd w G u x)(wa:Rd w G v y)(bw:fe ai x=true)(a2:fe ai y=true)(he:cA ks x.cells y.cells=some true):Instr.sameBits 10000 v u=true:=by
 obtain⟨us,h1,sh,_⟩:=ak.cells bw;obtain⟨vs,av,aW,_⟩:=wa.cells a2;have O7:∀{ks:List Nat} {xs ys:List D},cA ks xs ys=some true->cA ks ys xs=some true:=by
  intro ks;induction ks with
  |nil=>grind[cA]
  |cons k ks ih=>
   intro xs ys h;cases xs with
   |nil=>grind[cA]
   |cons x xs=>
    cases ys with
    |nil=>grind[cA]
    |cons y ys=>
     unfold cA at h;split at h
     .simp_all[cA]
     .rename_i i p j q;cases aY:decide (i=j)with
      |false=>simp_all
      |true=>
       simp_all[cA]
     .simp_all[cA]
     simp_all
 cases ai with
 |true=>
  obtain⟨l1,l2⟩:=IB 9999 (O7 he) av h1;grind[Instr.sameBits]
 |false=>
  obtain⟨_,l2⟩:=IB 10000 (O7 he) av h1;simp_all
def aB0:=@Option.getD_some
theorem agp{b i:Nat}{mes:Array MapEntry}{clock:Nat}{ob:Obj}(dA:G b=some (.obj i,0))(h:w.heap[b]?=some (.map mes clock))(aA:∀b L n,G b=some (L,n)->b<w.heap.size):
  let w1:World:={w with heap:=w.heap.setIfInBounds b ob};w1.heap[b]?=some ob/\da w G w1 G/\(∀L,L≠.obj i->e4 L L w G w1 G)/\Good w G w1 G/\∀b L n,G b=some (L,n)->b<w1.heap.size:=by
 have au:=aA _ _ _ dA;have w3:∀cj,cj≠b->(w.heap.setIfInBounds b ob)[cj]?=w.heap[cj]?:=λcj cB=>axZ;have aq:da w G {w with heap:=w.heap.setIfInBounds b ob} G:=by
  refine⟨?_,?_,?_⟩;rotate_left
  .intro cj o az;obtain⟨h1,av,sh⟩:=az;have cB:cj≠b:=axZ;exact⟨h1,av,(w3 _ cB).trans sh⟩
  .intro cj n az;obtain⟨c,E,fz,sh,av⟩:=az;have cB:cj≠b:=axZ;exact⟨c,E,fz,(w3 _ cB).trans sh,av⟩
  intro cj off v az;have cB:cj≠b:=by
   rintro rfl;have:=az.1;grind[World.cell?]
  exact⟨by rw[y2 (w:=w) (w':={w with heap:=w.heap.setIfInBounds b ob}) (w3 _ cB)];exact az.1,az.2⟩
 refine⟨?_,aq,?_,⟨?_,?_,?_,λ_ _ _ h=>h,aq,rfl,rfl⟩,?_⟩
 .grind
 .intro L bE cj n eZ;grind
 all_goals grind
theorem agq{t fr nV t1 t2:Nat}{ai:Bool}{ks:List Nat}{x k v:Operand}{bA k' v':O}(p:bT n0 gl nt w G ρ lam a st)(a8:o.dst=none)(bz:o.op=.mapUpdate t x k v)(ak:bO P t1 x=some bA)(aq:bO P fr k=some k')(hv:bO P t2 v=some v')
  (hu:P.underlying t=some (.map fr nV)) (j4:kinds P 10 fr=some ks) (dB:gp P fr=ai)
  (hs:step (bx P gl) gl (.oz ai ks bA k' v') st K):o.wp P a w (cJ n0 gl nt w G ρ K) Q:=by
 obtain⟨fB,h1⟩:=dQ ak p.rel;obtain⟨jd,sh⟩:=dQ aq p.rel;obtain⟨au',av⟩:=dQ hv p.rel;simp[step]at hs;split at hs
 .rename_i i ho aj hD;rw[aj]at h1;have cw:=h1;cases cc:a.eval x<;>rw[cc]at cw<;>cases cw;rename_i b au;split at hs
  .rename_i es aF;split at hs
   .rename_i j bh;obtain⟨aC,hs⟩:=hs;simp at aC;obtain⟨⟨qz,iH⟩,agr⟩:=aC;have r8:=sh.hq hD;obtain⟨vs,oJ,xd⟩:=O6 (P:=P) dB r8 iH (O5 agr);have ze:∀em,(Instr.checkKey em 10000 fr (a.eval k)).run P w=.ok () w:=λem=>Iw em 10 10000 fr ks vs _ j4 ax0 oJ xd;have ava:df w G ρ (a.eval v) (cT (aL gl st v')):=by
     have:=(av.cT (L':=.res)).HO qz;grind[HM,HN,dn.cases]
    have IA:kv w G ρ i b (.map es):=azo;obtain⟨mes,clock,m1,m2,m3,m4⟩:=IA;have xe:=Ix m3 m4;have r9:=zd (P:=P) j4 dB r8 iH xe bh;have mG:(getObj b).run P w=.ok (.map mes clock) w:=by grind[getObj,Sem.run]
    have iX:∀ob,(setObj b ob).run P w=.ok () {w with heap:=w.heap.setIfInBounds b ob}:=λob=>by grind[setObj,Sem.run]
    have fin:∀(zi:Array MapEntry) (EC:Nat),(execOp a.eval o).run P w=.ok .skip {w with heap:=w.heap.setIfInBounds b (.map zi EC)}->zi.size=(np es ho (cT (aL gl st v')) j).length->
      (∀(q:Nat) (e:MapEntry) (pp:D×ah),zi[q]?=some e->(np es ho (cT (aL gl st v')) j)[q]?=some pp->Rd w G e.key pp.1/\df w G ρ e.val pp.2)->o.wp P a w (cJ n0 gl nt w G ρ K) Q:=by
     intro zi EC ax cg gT;obtain⟨f1,f2,f3,f4,f5⟩:=agp (ob:=.map zi EC) m2 m1 p.rel.lt;refine u1 ax (kV p.eO (put_defers _ _ _) ax5 G ρ lam _ ?_ f4 (λ_ _ h=>h) hs);rw[a8];refine⟨λs=>(p.rel.aR s).bR f2 (λ_ _ h=>h) (λ_ _ h=>h) (f3 _ axX),?_,p.rel.nb,⟨by simpa using p.rel.ob.1,?_⟩,p.rel.eU.bR f2,f5⟩
     .intro s dZ gq;obtain⟨a6,g1,g2⟩:=p.rel.bH s dZ gq;exact⟨a6,g1,dM.bR f2 (λ_ _ h=>h) (f3 _ axX) (λj=>f3 _ axX) g2⟩
     .intro q a6 ob aS ct;by_cases l0:q=i
      .subst l0;rw[au]at aS;simp at aS;obtain rfl:b=a6:=axW;have aA:q<st.s.length:=axZ;simp[aAW aA,aAe]at ct;subst ct;exact⟨zi,EC,f1,m2,cg,λq e pp bL cW=>⟨(gT q e pp bL cW).1.keep f2,(gT q e pp bL cW).2.keep f2 λ_ _ h=>h⟩⟩
      .simp[aAQ (aAt l0)]at ct;exact(p.rel.ob.2 q a6 ob aS ct).bR f2 (λ_ _ h=>h) (f3 _ axZ) (λk=>f3 _ axX)
    cases j with
    |none=>
     have xf:foundAt mes.toList 0 none=none:=rfl;rw[xf]at r9;refine fin (mes.push {key:=a.eval k,val:=a.eval v,born:=clock}) (clock+1) ?_ (by grind[np]) ?_
     .simp[execOp,bz,Instr.mapUpdate,aAm,eV hu,aAo,cc,mG,ze,r9,iX,aAv]
     .intro q e pp aS BI;simp only[np]at BI;grind
    |some j=>
     have ep:j<es.length:=by have:=(BD bh).2;omega
     have xg:j<mes.size:=axW;have zh:mes[j]?=some mes[j]:=axX;have xf:foundAt mes.toList 0 (some j)=some (j,mes[j].val):=by grind[foundAt]
     rw[xf]at r9;have ags:es[j]?=some es[j]:=aAj ep;have h6:cA ks ho.cells es[j].1.cells=some true/\fe ai es[j].1=true:=by
      have key:∀(es:List (D×ah)) (i j:Nat),e3 ai ks ho es i=some (some j)->∃e,es[j-i]?=some e/\cA ks ho.cells e.1.cells=some true/\fe ai e.1=true:=by
       intro es;induction es with
       |nil=>grind[e3]
       |cons e es ih=>
        intro i j h;simp only[e3]at h;cases aC:fe ai e.1 with
        |false=>grind
        |true=>
         simp only[aC,aAg]at h;split at h
         .grind
         .obtain⟨e',h1,sh⟩:=ih _ _ h;have kx:=(BD h).1;grind
         grind
      grind
     have nZ:=ago r8 (m4 j _ _ zh ags).1 iH h6.2 h6.1;have agt:(Instr.keyThatStays (((mes[j]?).map (·.key)).getD (a.eval k)) (a.eval k)).run P w=.ok (a.eval k) w:=by
      rw[zh];simp only[aBp,aB0,Instr.keyThatStays,nZ,if_true,aAv]
     refine fin (mes.modify j λe=>{e with key:=a.eval k,val:=a.eval v}) clock ?_ (by grind[np]) ?_
     .simp only[execOp,bz,Instr.mapUpdate,aAm,eV hu,aAo,cc,mG,ze,r9,agt,iX,aAv]
     .intro q e pp aS BI;simp only[np]at BI;grind
   .exact hs.elim
  .exact hs.elim
 .exact hs.elim
def aAT:=@List.mem_append
theorem ayF(h:p:=by simp[refs]):p:=h
theorem pG{i:Nat}:∀{l:List Nat},dk i l=true↔i∈l
 |[]=>by simp[dk]
 |j::l=>by
  simp[dk,aAs];cases h:Nat.beq i j with
  |true=>simp[aAn h]
  |false=>
   have:i≠j:=by rintro rfl;simp at h
   simp[this,pG (l:=l)]
theorem O8{i:Nat}:∀{l:List Nat},i∈l->l[lp i l]?=some i
 |[],h=>axZ
 |j::l,h=>by
  simp[lp];cases au:Nat.beq i j with
  |true=>simp_all
  |false=>
   have:i≠j:=by grind[Nat.beq_refl]
   simp_all[O8]
theorem BJ:∀{l:List Nat} {i k:Nat},nodupB l=true->l[k]?=some i->lp i l=k
 |[],i,k,_,h=>axZ
 |j::l,i,k,ay,h=>by
  simp[nodupB,aAc,aAE]at ay;simp[lp];cases k with
  |zero=>
   simp_all
  |succ k=>
   simp at h;have hm:=aAM h;have cB:i≠j:=by rintro rfl;rw[pG.2 hm]at ay;simp_all
   have au:Nat.beq i j=false:=by rw[aBH];simp_all
   simp[au,aAw,BJ ay.2 h]
theorem IC{f:Nat->Nat}(aq:da w G w' G'):∀(n:Nat) {v:Value} {x:ah},df w G ρ v x->(∀i b,i∈refs n x->ρ[i]?=some (b+1)->ρ'[f i]?=some (b+1))->df w' G' ρ' v (ren f n x):=by
 intro n;induction n with
 |zero=>
  intro v x h ax;cases h with
  |undef v=>exact .undef v
  |d v y h=>exact .d v y (h.keep aq)
  |nil a sz=>exact .nil a sz
  |ptr i off b h=>exact .ptr _ _ _ (ax i b ayF h)
  |map i b h=>exact .map _ _ (ax i b ayF h)
  |aN i off len cap eu sz b h az aO=>exact .aN _ _ _ _ _ _ _ (ax i b ayF h) az (aq.2.2 _ _ aO)
  |func _ _ _ _ _ _ _=>exact .undef _
  |agg _ _ _=>exact .undef _
  |tuple _ _ _=>exact .undef _
  |fY _ _ _=>exact .undef _
 |succ n ih=>
  have ED:∀{vs:List Value} {xs:List ah},ck w G ρ vs xs->(∀i b,i∈xs.flatMap (refs n)->ρ[i]?=some (b+1)->ρ'[f i]?=some (b+1))->ck w' G' ρ' vs (xs.map (ren f n)):=by
   intro vs;induction vs with
   |nil=>intro xs h _;cases h;exact .nil
   |cons v vs IE=>
    intro xs h ax;cases h with
    |cons _ x _ xs h1 sh=>
     exact .cons _ _ _ _ (ih h1 λi b hi au=>ax i b axZ au) (IE sh λi b hi au=>ax i b axY au)
  intro v x h ax;cases h with
  |undef v=>exact .undef v
  |d v y h=>exact .d v y (h.keep aq)
  |nil a sz=>exact .nil a sz
  |ptr i off b h=>exact .ptr _ _ _ (ax i b ayF h)
  |map i b h=>exact .map _ _ (ax i b ayF h)
  |aN i off len cap eu sz b h az aO=>exact .aN _ _ _ _ _ _ _ (ax i b ayF h) az (aq.2.2 _ _ aO)
  |func g fp cs a c h1 sh=>
   refine .func _ _ _ _ _ (ED h1 λi b hi au=>ax i b ?_ au) (ED sh λi b hi au=>ax i b ?_ au);all_goals grind[refs]
  |agg vs cs h=>exact .agg _ _ (ED h λi b hi au=>ax i b (by grind[refs]) au)
  |tuple vs cs h=>exact .tuple _ _ (ED h λi b hi au=>ax i b (by grind[refs]) au)
  |fY _ _ _=>exact .undef _
theorem O9{f:Nat->Nat}{L L':Loc}{n:Nat}(aq:da w G w' G')(hs:e4 L L' w G w' G'){v:Value}{x:ah}(h:dn w G ρ L v x)(ax:∀i b,i∈refs n x->ρ[i]?=some (b+1)->ρ'[f i]?=some (b+1)):dn w' G' ρ' L' v (ren f n x):=by
 rcases h.cases with h|⟨sz,l,rfl,eA⟩|⟨sz,m,us,rfl,eA⟩
 .grind[IC,dn.cp]
 .have:ren f n (iz sz l)=iz sz l:=by cases n<;>cases l<;>rfl
  grind[dn.yU,rQ.bR]
 .have:ren f n (.raw sz m us)=.raw sz m us:=by cases n<;>rfl
  rw[this];exact px.bR aq hs eA
theorem O'{f:Nat->Nat}{n:Nat}(aq:da w G w' G'):∀{vs:List Value} {xs:List ah},ck w G ρ vs xs->(∀i b,i∈xs.flatMap (refs n)->ρ[i]?=some (b+1)->ρ'[f i]?=some (b+1))->ck w' G' ρ' vs (xs.map (ren f n))
 |[],_,h,_=>by cases h;exact .nil
 |v::vs,_,h,ax=>by
  cases h with
  |cons _ x _ xs h1 sh=>
   exact .cons _ _ _ _ (IC aq n h1 λi b hi au=>ax i b (by simp[hi]) au) (O' aq sh λi b hi au=>ax i b (by simp only[aBw,aAT];exact .inr hi) au)
theorem IG{f:Nat->Nat}{i j b:Nat}{ob:b9}(aq:da w G w' G')(hs:e4 (.obj i) (.obj j) w G w' G')(az:∀q,e4 (.du i q) (.du j q) w G w' G')(h:kv w G ρ i b ob)
  (ax:∀i b,i∈ob.refs->ρ[i]?=some (b+1)->ρ'[f i]?=some (b+1)):kv w' G' ρ' j b (ob.ren f):=by
 cases ob with
 |dead=>trivial
 |hU t e bs=>
  obtain⟨p,v,h1,sh,av,aW⟩:=h;obtain⟨aj,aF⟩:=hs _ _ sh;refine⟨p,v,aj.trans h1,aF,av,?_⟩;rcases aW with aW|⟨g,cap,c,fz,bw,a2,a3,a4⟩
  .simp_all
  .obtain⟨f1,f2⟩:=az 1 _ _ a3;grind
 |rE m=>
  rcases h with⟨since,last,h1,sh,av⟩|⟨k,a6,since,last,h1,sh,av,aW⟩
  .obtain⟨aj,aF⟩:=hs _ _ sh;subst av;exact .inl ⟨since,last,aj.trans h1,aF,rfl⟩
  .obtain⟨aj,aF⟩:=hs _ _ aW;subst h1;exact .inr ⟨f k,a6,since,last,rfl,ax k a6 (by simp[b9.refs]) sh,aj.trans av,aF⟩
 |box cs=>
  obtain⟨c,E,fz,h1,sh,av,aW,bL⟩:=h;obtain⟨aj,aF⟩:=hs _ _ av;refine⟨c,E,fz,aj.trans h1,sh,aF,axY,?_⟩;intro q v x hv ak;simp at ak;obtain⟨y,wa,rfl⟩:=ak;exact O9 aq (az q) (bL q v y hv wa) λi b hi au=>ax i b (aCh.2 ⟨y,aAM wa,hi⟩) au
 |map es=>
  obtain⟨mes,clock,h1,sh,av,aW⟩:=h;obtain⟨aj,aF⟩:=hs _ _ sh;refine⟨mes,clock,aj.trans h1,aF,axY,?_⟩;intro q e p he hp;simp only[aA4,aA0]at hp;obtain⟨y,wa,rfl⟩:=hp;exact⟨(aW q e y he wa).1.keep aq,IC aq depth (aW q e y he wa).2 λi b hi au=>ax i b (aCh.2 ⟨y,aAM wa,hi⟩) au⟩
theorem IH:∀{ids:List Nat} {s:aU} {l:List b9},ids.length<=l.length->(merge s ids l).length=s.length+(l.length-ids.length)
 |[],s,[],_=>by simp[merge]
 |[],s,o::l,_=>by simp[merge]
 |_::_,_,[],h=>axZ
 |i::ids,s,o::l,h=>by
  simp[merge];rw[IH (by simpa using h)];simp
theorem II:∀{ids:List Nat} {s:aU} {l:List b9} {i:Nat} {ob:b9},ids.length<=l.length->nodupB ids=true->(∀j,j∈ids->j<s.length)->(merge s ids l)[i]?=some ob->
  (∃k:Nat,ids[k]?=some i/\l[k]?=some ob)\/(i∉ids/\i<s.length/\s[i]?=some ob)\/(s.length<=i/\l[ids.length+(i-s.length)]?=some ob)
 |[],s,[],i,ob,_,_,_,h=>by
  grind[merge]
 |[],s,o::l,i,ob,_,_,_,h=>by
  grind[merge]
 |_::_,_,[],_,_,h,_,_,_=>axZ
 |j::ids,s,o::l,i,ob,aI,ay,hs,h=>by
  simp[nodupB,aAc,aAE]at ay;have ep:=hs j axX;rcases II axY ay.2 (λq aS=>axY) h with⟨k,h1,sh⟩|⟨h1,sh,av⟩|⟨h1,sh⟩
  .exact .inl ⟨k+1,axY,axY⟩
  .by_cases eP:i=j
   .subst eP;exact .inl ⟨0,axX,axY⟩
   grind
  grind
theorem ax7(h:p:=by simp;omega):p:=h
theorem azL(h:p:=by rw[aBH];intro h;exact h1 (pG.1 h)):p:=h
def j7(ids:List Nat):Loc->Loc
 |.obj i=>cond (dk i ids) (.obj (lp i ids)) .foreign
 |.du i q=>cond (dk i ids) (.du (lp i ids) q) .foreign
 |_=>.foreign
def r'(ids:List Nat)(len:Nat)(D:Loc):Loc->Loc
 |.obj j=>.obj (back ids len j)
 |.du j q=>.du (back ids len j) q
 |.res=>D
 |_=>.res
def lx(ids:List Nat)(len:Nat)(D:Loc)(n:Nat)(G gV:bI):bI:=λb=>
 if b<n then match G b with
  |none=>none
  |some (L,m)=>if j7 ids L=.foreign then some (L,m)else(gV b).map λp=>(r' ids len D p.1,p.2)
 else(gV b).map λp=>(r' ids len D p.1,p.2)
theorem Pa{ids:List Nat}{len:Nat}{D L:Loc}(cv:D≠.foreign):r' ids len D L≠.foreign:=by
 cases L<;>simp[r',cv]
section
variable {ids:List Nat}{len:Nat}{D:Loc}{gV:bI}(dD:Good w (c8 (j7 ids) G) w' gV)(aA:∀b L n,G b=some (L,n)->b<w.heap.size)
include dD
theorem agu{b:Nat}{L:Loc}{n:Nat}(h:gV b=some (L,n))(bE:L≠.foreign):lx ids len D w.heap.size G gV b=some (r' ids len D L,n):=by
 unfold lx;split
 .rename_i au;cases aC:G b with
  |none=>
   have:=(dD.iB b au (.inl ayk)).2;grind[c8]
  |some p=>
   obtain⟨L0,m⟩:=p;simp;split
   .rename_i bh;have ax:c8 (j7 ids) G b=some (.foreign,m):=ayk;have:=(dD.iB b au (.inr ⟨m,ax⟩)).2;simp_all
   simp_all
 simp_all
theorem BK{L:Loc}(bE:L≠.foreign):e4 L (r' ids len D L) w' gV w' (lx ids len D w.heap.size G gV):=
 λ_ _ h=>⟨rfl,agu dD h bE⟩
theorem agv{b:Nat}(h:gV b=none):lx ids len D w.heap.size G gV b=none:=by
 unfold lx;split
 .rename_i au;cases aC:G b with
  |none=>rfl
  |some p=>
   obtain⟨L0,m⟩:=p;simp;split
   .rename_i bh;have ax:c8 (j7 ids) G b=some (.foreign,m):=ayk;have:=(dD.iB b au (.inr ⟨m,ax⟩)).2;simp_all
   simp_all
 simp_all
theorem Pb:da w' gV w' (lx ids len D w.heap.size G gV):=by
 refine⟨?_,λb o h=>⟨agv dD h.1,h.2⟩,λ_ _ h=>h⟩;intro b off v h;refine⟨h.1,?_,h.2.2⟩;intro L n dA;unfold lx at dA;split at dA
 .rename_i au;cases aC:G b with
  |none=>simp_all
  |some p=>
   obtain⟨L0,m⟩:=p;simp[aC]at dA;split at dA
   .rename_i bh;simp at dA;obtain⟨rfl,rfl⟩:=dA;have ax:c8 (j7 ids) G b=some (.foreign,m):=ayk;have:=(dD.iB b au (.inr ⟨m,ax⟩)).2;rw[ax]at this;exact h.2.1 _ _ this
   .cases h1:gV b with
    |none=>simp_all
    |some q=>
     simp[h1,aBp,aAe,aAJ]at dA;obtain⟨_,rfl⟩:=dA;exact h.2.1 _ _ h1
 .cases h1:gV b with
  |none=>simp_all
  |some q=>
   simp[h1,aBp,aAe,aAJ]at dA;obtain⟨_,rfl⟩:=dA;exact h.2.1 _ _ h1
theorem Pc:da w G w' (lx ids len D w.heap.size G gV):=((j2 (j7 ids)).trans dD.keep).trans (Pb dD)
include aA
theorem IJ{L:Loc}(bE:j7 ids L=.foreign):e4 L L w G w' (lx ids len D w.heap.size G gV):=by
 intro b n h;have au:=aA _ _ _ h;have ax:c8 (j7 ids) G b=some (.foreign,n):=ayk;refine⟨(dD.iB b au (.inr ⟨n,ax⟩)).1,?_⟩;grind[lx]
omit aA in
theorem agw(cv:D≠.foreign):Good w G w' (lx ids len D w.heap.size G gV) where
 size:=dD.size
 iB b au h:=by
  rcases h with h|⟨n,h⟩
  .exact⟨(dD.iB b au (.inl ayk)).1,by grind[lx]⟩
  .have ax:c8 (j7 ids) G b=some (.foreign,n):=by grind[c8,j7]
   exact⟨(dD.iB b au (.inr ⟨n,ax⟩)).1,by grind[lx,j7]⟩
 new b n au h:=by
  unfold lx at h;rw[aAG (aBv.2 au)]at h;simp_all[Pa]
 old b n au h:=by
  unfold lx at h;rw[aAD au]at h;cases aC:G b with
  |none=>simp_all
  |some p=>
   obtain⟨L0,m⟩:=p;simp[aC]at h;split at h;all_goals simp_all[Pa]
 keep:=Pc dD
 os:=dD.os
 out:=dD.out
omit aA in
theorem agx(EE:∀b L n,gV b=some (L,n)->b<w'.heap.size):∀b L n,lx ids len D w.heap.size G gV b=some (L,n)->b<w'.heap.size:=by
 intro b L n h;rcases aA1 b w.heap.size with au|au
 .exact aAI au dD.size
 .unfold lx at h;rw[aAG (aBv.2 au)]at h;cases h1:gV b with
  |none=>simp_all
  |some q=>grind
end
theorem agy{f:Nat}{args:List ah}{vs:List Value}{K:ah->aU->Prop}{D:Loc}(p:bS gl w G ρ lam a.tmps st)(cv:D≠.foreign)(wX:ck w G ρ vs args)(hs:kP (bx P gl) f args st.s K):
  gQ P f/\Calls P f ⟨vs⟩ w λe w'=>∃v r s' fZ fE,e=.returned v/\dn w' fZ fE D v r/\ht w' fZ fE s'/\Good w G w' fZ/\(∀i b:Nat,ρ[i]?=some b->fE[i]?=some b)/\(∀b L n,fZ b=some (L,n)->b<w'.heap.size)/\
   (∀L,(∀i q,L≠.obj i/\L≠.du i q)->L≠.foreign->e4 L L w G w' fZ)/\py gl w' fZ/\K r s':=by
 obtain⟨aC,hs⟩:=hs;simp at aC;obtain⟨⟨⟨zj,aDg⟩,ig⟩,qz⟩:=aC;obtain⟨r,s',rX,hlen,ao⟩:=hs;have hlen:=aAr hlen;obtain⟨EF,rX⟩:=rX;refine⟨EF,?_⟩;generalize avb:reach st.s (st.s.length+st.s.length+8) (args.flatMap (refs depth)) []=ids at*;simp only[closed,aAc,aAx,pG]at ig;obtain⟨agz,zk⟩:=ig;have agA:∀i,i∈ids->i<st.s.length:=by
  intro i hi;have:=(aAx.1 zj) i hi;grind[Nat.blt_eq]
 have IK:=p.ob.1;let BL:=ids.map λi=>ρ.getD i 0;have IL:∀(i b:Nat),i∈ids->ρ[i]?=some b->BL[lp i ids]?=some b:=by
  grind[O8]
 have EG:=j2 (w:=w) (G:=G) (j7 ids);have agB:∀i,i∈ids->j7 ids (.obj i)=.obj (lp i ids):=λi hi=>by simp[j7,pG.2 hi]
 have avc:∀i q,i∈ids->j7 ids (.du i q)=.du (lp i ids) q:=λi q hi=>by simp[j7,pG.2 hi]
 have agC:ht w (c8 (j7 ids) G) BL (ids.map λi=>(st.s.getD i .dead).ren λi=>lp i ids):=by
  refine⟨axZ,?_⟩;intro k b ob au ct;simp[BL,aA4,aA0]at au ct;obtain⟨i,hi,ly⟩:=au;obtain⟨iQ,jj,rfl⟩:=ct;rw[hi]at jj;simp at jj;subst jj;have nz:=aAM hi;have aq:=BJ aDg hi;have au:ρ[i]?=some (b+1):=axZ;have h1:=oH (w:=w) (G:=G) (j7 ids) (.obj i);rw[agB i nz,aq]at h1;refine IG EG h1 (λq=> ?_) (p.ob.at au) λj cj aK eZ=>IL j _ (zk i nz j aK) eZ;grind[oH]
 have agD:=O' (f:=λi=>lp i ids) (n:=depth) (ρ':=BL) EG wX λi b hi au=>IL i _ (agz i hi) au;refine(rX w (c8 (j7 ids) G) BL vs agC (p.eU.bR EG) (rS p.lt) agD).mono ?_;rintro e w' ⟨v,gV,k0,rfl,ax,IP,EE,dD,agE⟩;have agF:=hlen;have avd:=IP.1;let fE:=(ρ.mapIdx λi e=>cond (dk i ids) (k0.getD (lp i ids) 0) e)++k0.drop ids.length;have u':∀(i e:Nat),ρ[i]?=some e->fE[i]?=some (cond (dk i ids) (k0.getD (lp i ids) 0) e):=axZ;have EH:∀i b:Nat,ρ[i]?=some b->fE[i]?=some b:=by
  intro i b hi;rw[u' i _ hi];cases he:dk i ids with
  |false=>rfl
  |true=>
   rw[aAL,agE _ _ (IL i b (pG.1 he) hi)];rfl
 have ie:∀(j i:Nat),ids[j]?=some i->fE[i]?=some (k0.getD j 0):=by
  intro j i aK;have nz:=aAM aK;rw[u' i _ (aAj axZ),pG.2 nz,BJ aDg aK];rfl
 have mL:∀j b:Nat,k0[j]?=some (b+1)->fE[back ids st.s.length j]?=some (b+1):=by
  intro j b aK;unfold back;rcases aA1 j ids.length with ep|ep
  .rw[aAj ep];simp;rw[ie j _ (aAj ep),aAL,aK];rfl
  .rw[aCj ep];simp;rw[aA7 axZ,List.length_mapIdx,IK,aBT];rw[show ids.length+(st.s.length+(j-ids.length)-st.s.length)=j by omega];omega
 have fQ:=Pb (len:=st.s.length) (D:=D) dD;refine⟨v,ren (back ids st.s.length) depth r,merge st.s ids (s'.map (b9.ren (back ids st.s.length))),lx ids st.s.length D w.heap.size G gV,fE,rfl,?_,⟨?_,?_⟩,agw dD cv,EH,agx dD EE,?_,?_,ao⟩
 .exact O9 fQ (BK dD (L:=.res) axX) ax λi b _ au=>mL i b au
 .grind[IH]
 .intro i b ob au ct;rcases II (by simpa using agF) aDg (λj aK=>agA j aK) ct with⟨k,h1,sh⟩|⟨h1,sh,av⟩|⟨h1,sh⟩
  ·
   simp at sh;obtain⟨tG,xa,rfl⟩:=sh;have nz:=aAM h1;have aq:k0[k]?=some (b+1):=by
    have:=ie k i h1;rw[au]at this;simp only[aAe]at this;rw[aAL]at this;cases aS:k0[k]? with
    |none=>rw[aS]at this;simp at this
    |some e=>rw[aS]at this;simp at this;rw[this]
   have aW:=IP.2 k b tG aq xa;have j8:back ids st.s.length k=i:=by simp[back,h1]
   have aj:=BK (len:=st.s.length) (D:=D) dD (L:=.obj k) axX;simp[r',j8]at aj;refine IG fQ aj (λq=> ?_) aW λj cj _ eZ=>mL j cj eZ;have aF:=BK (len:=st.s.length) (D:=D) dD (L:=.du k q) axX;simpa only[r',j8]using aF
  ·
   have iG:ρ[i]?=some (b+1):=by
    have:=aAj (show i<ρ.length by rw[IK];exact sh);have cB:dk i ids=false:=azL;have aW:=u' _ _ this;rw[au,cB]at aW;rw[this];exact aW.symm
   have cB:dk i ids=false:=azL;exact(p.ob.2 i b ob iG av).bR (Pc dD) (λi b=>EH i (b+1)) (IJ dD p.lt (by simp[j7,cB])) (λq=>IJ dD p.lt (by simp[j7,cB]))
  ·
   simp[aA4,aA0]at sh;obtain⟨tG,xa,rfl⟩:=sh;have j8:back ids st.s.length (ids.length+(i-st.s.length))=i:=by
    unfold back;rw[aCj axW];simp only;omega
   have hd:k0[ids.length+(i-st.s.length)]?=some (b+1):=by
    simp[fE]at au;rw[aA7 ax7,List.length_mapIdx,IK,aBT]at au;exact au
   have aW:=IP.2 _ b tG hd xa;have aj:=BK (len:=st.s.length) (D:=D) dD (L:=.obj (ids.length+(i-st.s.length))) axX;simp[r',j8]at aj;refine IG fQ aj (λq=> ?_) aW λj cj _ eZ=>mL j cj eZ;have aF:=BK (len:=st.s.length) (D:=D) dD (L:=.du (ids.length+(i-st.s.length)) q) axX;simpa only[r',j8]using aF
 .intro L bE bh;refine IJ dD p.lt ?_;cases L<;>first|rfl|exact absurd rfl (bE _ 0).1|exact absurd rfl (bE _ _).2
 .exact(p.eU.bR EG).bR dD.keep |>.bR fQ
def aCX:=@List.all_append
def aCY:=@List.flatMap_eq_nil_iff
theorem Pf{f:Nat}{vs:Array Value}(h:gQ P f):(callFunc f vs).run P w=.ok (.enter f vs) w:=by
 obtain⟨fn,h1,sh,av⟩:=h;have ay:fn.body≠none:=axZ;have av:fn.name≠ "runtime.NumGoroutine" :=axY;simp[callFunc,h1,av,ay]
theorem agG{f:Nat}{c:Call}{fo:Operand}{fp cs:List Value}(az:c.callee=.value fo)(bz:o.op=.call c)(bh:a.eval fo=.func (.func f) ⟨fp⟩ ⟨cs⟩)(h:gQ P f):
  (execOp a.eval o).run P w=.ok (.enter f ⟨fp++c.args.toList.map a.eval++cs⟩) w:=by
 have e:(#[]:Array Value)=⟨[]⟩:=rfl;simp[execOp,bz,aAm,resolve,az,bh,Deferred.ofValue,aAv,aAo,invoke];simp_all[Pf]
theorem bS.called{w':World}{fZ:bI}{fE:List Nat}{s':aU}(h:bS gl w G ρ lam a.tmps st)(ct:ht w' fZ fE s')(dD:Good w G w' fZ)(cN:∀i b:Nat,ρ[i]?=some b->fE[i]?=some b)
  (aA:∀b L n,fZ b=some (L,n)->b<w'.heap.size) (hs:∀L,(∀i q,L≠.obj i/\L≠.du i q)->L≠.foreign->e4 L L w G w' fZ) (aC:py gl w' fZ):
  bS gl w' fZ fE lam a.tmps {st with s:=s'} where
 aR t:=(h.aR t).bR dD.keep (λi b=>cN i (b+1)) (λ_ _ h=>h) (hs _ (λ_ _=>⟨axX,axX⟩) axX)
 bH t cs au:=by
  obtain⟨b,h1,sh⟩:=h.bH t cs au;exact⟨b,h1,dM.bR dD.keep (λi b=>cN i (b+1)) (hs _ (λ_ _=>⟨axX,axX⟩) axX) (λj=>hs _ (λ_ _=>⟨axX,axX⟩) axX) sh⟩
 nb:=h.nb
 ob:=ct
 eU:=aC
 lt:=aA
theorem IQ{w0:World}{G0:bI}{ρ0:List Nat}{d:Option Nat}{v:Value}{x:ah}{st:ag}(h:bS gl w G ρ lam a.tmps st)(wP:Marks n0 w0 G0 a.defers)(ay:nt<=a.tmps.size)(bu:∀t,d=some t->t<nt)(aC:Good w0 G0 w G)(yW:∀i b:Nat,ρ0[i]?=some b->ρ[i]?=some b)(a8:o.dst=d)
  (hv:∀t,d=some t->di w G ρ lam (.slot t) v x) (ao:K (st.dI d x)):cJ n0 gl nt w0 G0 ρ0 K (a.put o.dst v) w:=by
 cases d with
 |some t=>exact nW h wP ay (bu t rfl) aC yW a8 (hv t rfl) ao
 |none=>rw[a8];exact kV wP rfl ay G ρ lam st h aC yW ao
def IU:Option Nat->Loc
 |some t=>.slot t
 |none=>.res
theorem agH(d:Option Nat):IU d≠.foreign:=by cases d<;>simp[IU]
theorem agI{xs:List Operand}{ys:List O}(p:bT n0 gl nt w G ρ lam a st)(ak:h4 (λx y=>∃t,bO P t x=some y) xs ys)(qz:(ys.map (jK gl st)).all (ea depth)=true):
  ck w G ρ (xs.map a.eval) (ys.map (jK gl st)):=by
 induction ak with
 |nil=>exact .nil
 |@cons x y xs ys h1 sh ih=>
  simp only[aAP,aB5,aAc]at qz;refine .cons _ _ _ _ ?_ (ih qz.2);have av:jK gl st y=cT (snap (aL gl st y))\/∃sz,y=.c (.own sz [])/\jK gl st y=.own sz []:=by
   unfold jK;grind
  rcases av with av|⟨sz,rfl,av⟩
  .have:=El (xs:=[x]) (ys:=[y]) p (.cons h1 .nil) axY;rw[av];cases this with
   |cons _ _ _ _ h _=>exact h
  .obtain⟨t,h1⟩:=h1;obtain⟨L,ew⟩:=dQ h1 p.rel;exact ew
theorem Pg{d:Option Nat}{f:Nat}{c:Call}{fo:Operand}{fp cs:List Value}{a' c':List ah}{ys:List O}(p:bT n0 gl nt w G ρ lam a st)(a8:o.dst=d)(bu:∀t,d=some t->t<nt)(bz:o.op=.call c)
  (az:c.callee=.value fo) (bh:a.eval fo=.func (.func f) ⟨fp⟩ ⟨cs⟩) (h1:ck w G ρ fp a') (sh:ck w G ρ cs c') (ak:h4 (λx y=>∃t,bO P t x=some y) c.args.toList ys)
  (hs:kP (bx P gl) f (a'++ys.map (jK gl st)++c') st.s λr s'=>K ({st with s:=s'}.dI d r)):o.wp P a w (cJ n0 gl nt w G ρ K) Q:=by
 have qz:(ys.map (jK gl st)).all (ea depth)=true:=by
  have:=hs.1;simp_all
 obtain⟨EF,hC⟩:=agy p.rel (D:=IU d) (agH d) ((h1.append (agI p ak qz)).append sh) hs;unfold Oper.wp;rw[agG az bz bh EF,Oper.upon_enter];refine hC.mono ?_;rintro e w' ⟨v,r,s',fZ,fE,rfl,ax,ct,dD,cN,aA,h6,BM,ao⟩;have dz:=p.rel.called ct dD cN aA h6 BM;exact IQ dz p.eO p.sz bu dD cN a8 (λt aE=>by subst aE;exact .lV ax) ao
theorem Ph{d:Option Nat}{c:Call}{fo:Operand}{Pj:O}{t:Nat}{ys:List O}(p:bT n0 gl nt w G ρ lam a st)(a8:o.dst=d)(bu:∀t,d=some t->t<nt)(bz:o.op=.call c)
  (az:c.callee=.value fo) (nr:bO P t fo=some Pj) (ak:h4 (λx y=>∃t,bO P t x=some y) c.args.toList ys)
  (hs:step (bx P gl) gl (.dH d Pj ys) st K):o.wp P a w (cJ n0 gl nt w G ρ K) Q:=by
 obtain⟨L,bh⟩:=dQ nr p.rel;simp only[step]at hs;split at hs
 .rename_i f he;rw[he]at bh;have bh:=bh.iV;have bh:a.eval fo=.func (.func f) ⟨[]⟩ ⟨[]⟩:=by
   generalize a.eval fo=v at bh;cases bh;rfl
  refine Pg (a':=[]) (c':=[]) p a8 bu bz az bh .nil .nil ak ?_;simp_all
 .rename_i f a0 c0 he;rw[he]at bh;have Pk:=bh;generalize hv:a.eval fo=v at Pk;cases Pk with
  |func _ fp cs _ _ h1 sh=>exact Pg p a8 bu bz az hv h1 sh ak hs
 .exact hs.elim
theorem ave{f:Nat->Nat}:∀(n:Nat) (x:ah),ea n x=true->refs n x=[]->ren f n x=x:=by
 intro n;induction n with
 |zero=>intro x h1 sh;cases x<;>simp[ea,refs,ren]at h1 sh⊢
 |succ n ih=>
  have BN:∀l:List ah,(∀x,x∈l->ea n x=true)->(∀x,x∈l->refs n x=[])->l.map (ren f n)=l:=by
   intro l h1 sh;induction l with
   |nil=>rfl
   |cons x l avf=>simp_all
  intro x h1 sh;cases x with
  |func g a c=>
   simp[ea,aCX,aAc,aAx]at h1;simp[refs,aCW,List.append_eq_nil_iff,aCY]at sh;simp[ren,BN a h1.1 sh.1,BN c h1.2 sh.2]
  |agg cs=>
   grind[ea,refs,List.flatMap_eq_nil_iff,ren]
  |tuple cs=>
   grind[ea,refs,List.flatMap_eq_nil_iff,ren]
  |undef=>grind[ea]
  |fY i=>grind[ea]
  |dT t off=>grind[ea]
  |d x=>rfl
  |own sz l=>rfl
  |gJ sz=>rfl
  |raw sz m us=>rfl
  |ptr i off=>grind[refs]
  |map i=>grind[refs]
  |aN i off len cap sz=>grind[refs]
def aB':=@Bool.true_and
theorem avg{x:ah}{sz:Nat}{l:List D}:cT (snap x)≠.own sz l:=by
 intro e;cases x<;>simp[snap,cT]at e;grind
theorem agJ{t:Nat}{x:Operand}{y:O}(p:bT n0 gl nt w G ρ lam a st)(ak:bO P t x=some y)(fW:(cellsOf (gP (aL gl st y))).all kn=true):ck w G ρ (a.eval x).cells.toList (cellsOf (gP (aL gl st y))):=by
 have ay:(cellsOf (gP (aL gl st y))).all (ea depth)=true:=by
  simp_all[kn]
 obtain⟨L,ew⟩:=dQ ak p.rel;grind[Eg,df.cells]
theorem Pl{sz:Nat}(p:bT n0 gl nt w G ρ lam a st):∀{xs:List Operand} {ys:List O},h4 (λx y=>∃t,bO P t x=some y) xs ys->
  ((ys.map λx=>cellsOf (gP (aL gl st x))).all λl=>Nat.beq l.length sz&&l.all kn)=true->
  ck w G ρ (xs.flatMap λx=>(a.eval x).cells.toList) (ys.map λx=>cellsOf (gP (aL gl st x))).flatten/\(∀x,x∈xs->(a.eval x).cells.size=sz)/\(xs.flatMap λx=>(a.eval x).cells.toList).length=ys.length*sz
 |[],_,h,_=>by cases h;exact⟨.nil,axX,axX⟩
 |x::xs,_,h,fW=>by
  cases h with
  |cons h1 sh=>
   rename_i y ys;obtain⟨t,h1⟩:=h1;simp only[aAP,aB5,aAc]at fW;obtain⟨⟨bp,au⟩,az⟩:=fW;have ax:=agJ p h1 au;have aI:=aAn bp;obtain⟨aj,aF,aZ⟩:=Pl p sh az;have hs:(a.eval x).cells.size=sz:=by rw[<-aCU,ax.length,aI]
   refine⟨?_,?_,?_⟩
   .grind[ck.append]
   all_goals grind
theorem agK{d t e n len:Nat}{ps:Array (Nat×Operand)}{ys:List O}{z:List ah}(p:bT n0 gl nt w G ρ lam a st)(a8:o.dst=some d)(bu:d<nt)(bz:o.op=.buildSlice t len ps)
  (hu:P.underlying t=some (.slice e)) (ay:dc P e=some n) (afR:0<n) (aO:zeros P e=some z) (w2:ps.toList.map (·.1)=List.range len) (n5:len*n<=2^24)
  (aS:h4 (λx y=>∃t,bO P t x=some y) (ps.toList.map (·.2)) ys)
  (hs:step (bx P gl) gl (.rF d n ys) st K):o.wp P a w (cJ n0 gl nt w G ρ K) Q:=by
 obtain⟨i,eg,h1,sh,av,aW,bL⟩:=n1 aO;have dw:i.size=n:=ayo;have nu:=axW;obtain⟨aC,hs⟩:=hs;simp only[aAc]at aC;obtain⟨aZ,bP,cK⟩:=Pl p aS aC.2;have hlen:ps.toList.length=len:=by have:=congrArg List.length w2;grind
 have sa:ys.length=len:=by have:=h4.length aS;simp_all
 have OJ:ps.map (λx=>(x.1,a.eval x.2))=⟨(List.range' 0 (ps.toList.map λx=>a.eval x.2).length).zip (ps.toList.map λx=>a.eval x.2)⟩:=by
  grind[List.range_eq_range']
 have wV:∀c0:Array Value,c0.size=len*n->Instr.fill (λi=>some (i*n,n)) c0 (ps.map (λx=>(x.1,a.eval x.2))).toList=some ⟨(ps.toList.map λx=>a.eval x.2).flatMap λv=>v.cells.toList⟩:=by
  intro c0 afF;rw[OJ];have:=Ie (sz:=n) (ps.toList.map λx=>a.eval x.2) 0 [] c0.toList axX axY (λv hv=>axZ);simp_all
 have afG:((ps.toList.map λx=>a.eval x.2).flatMap λv=>v.cells.toList)=(ps.toList.map (·.2)).flatMap λx=>(a.eval x).cells.toList:=by
  generalize ps.toList=q;induction q with
  |nil=>rfl
  |cons y ys ih=>grind
 have dv:(Instr.buildSlice t len (ps.map λx=>(x.1,a.eval x.2))).run P w=.ok (.slice (some ⟨w.heap.size,0,none⟩) len len) {w with heap:=w.heap.push (.cells ⟨(ps.toList.map (·.2)).flatMap λx=>(a.eval x).cells.toList⟩ e)}:=by
  have iI:¬len*n>2^24:=axW;unfold Instr.buildSlice;simp only[aAm,eV hu,aAo,j3 ay,aBR,aAG iI,aAv];simp_all[newRow,rW]
 have fC:(execOp a.eval o).run P w=.ok (.value (.slice (some ⟨w.heap.size,0,none⟩) len len)) {w with heap:=w.heap.push (.cells ⟨(ps.toList.map (·.2)).flatMap λx=>(a.eval x).cells.toList⟩ e)}:=ayC;have hw:gD w (.cells ⟨(ps.toList.map (·.2)).flatMap λx=>(a.eval x).cells.toList⟩ e) {w with heap:=w.heap.push (.cells ⟨(ps.toList.map (·.2)).flatMap λx=>(a.eval x).cells.toList⟩ e)}:=⟨rfl,rfl,rfl⟩;have r7:(ρ++[w.heap.size+1])[st.s.length]?=some (w.heap.size+1):=ayp;refine gb fC (kV p.eO (put_defers _ _ _) ax5 _ (ρ++[w.heap.size+1]) lam _ ?_ (hw.good p.rel.lt (L0:=.obj st.s.length) (n0:=0) axX) (λi b h=>iE i _ h) hs);rw[a8];refine p.rel.y9 hw (aAI bu p.sz) ?_ ?_
 .exact dM.bR (da.refl _ _) (λi b h=>iE i _ h) (λb n h=>⟨rfl,h⟩) (λj b n h=>⟨rfl,h⟩) (wY (LC:=.du st.s.length) hw aZ)
 .rw[sa];refine .aN _ _ _ _ _ _ _ r7 (aAd _) ⟨_,e,(0,0),hw.new,?_⟩;simp_all
where
 h4.length {α β:Type} {R:α->β->Prop}:∀{xs:List α} {ys:List β},h4 R xs ys->xs.length=ys.length
  |_,_,.nil=>rfl
  |_,_,.cons _ h=>by simp[h4.length h]
theorem IV{vs:List Value}{z:List ah}(h:∀{w:World} {G:bI} {ρ:List Nat},ck w G ρ vs z):∀n:Nat,ck w G ρ (List.replicate n vs).flatten (List.replicate n z).flatten
 |0=>.nil
 |n+1=>by
  exact h.append (IV h n)
theorem IW{α:Type}{l:List α}:∀n:Nat,(List.replicate n l).flatten.length=n*l.length
 |0=>axX
 |n+1=>axX
theorem Pm{zero:Array Value}(wb:0<zero.size)(n:Nat):((Array.range (n*zero.size)).map (zero[·%zero.size]!))=⟨(List.replicate n zero.toList).flatten⟩:=by
 apply aBS;apply aBV;intro j;have key:∀(n:Nat) (j:Nat),(List.replicate n zero.toList).flatten[j]?=if j<n*zero.size then zero.toList[j%zero.size]? else none:=by
  intro n;induction n with
  |zero=>simp
  |succ n ih=>
   intro j;simp only[List.replicate_succ,List.flatten_cons];by_cases aK:j<zero.size
   .rw[aAY axW,aAD axZ,Nat.mod_eq_of_lt aK]
   .rw[Nat.mod_eq_sub_mod (aBv.1 aK)];grind
 rw[key];by_cases aK:j<n*zero.size
 .simp_all[Nat.mod_lt]
 grind
theorem wrap_small{n:Int}(wb:0<=n)(h1:n<=9223372036854775807):IntKind.i64.wrap n=n:=by
 have sh:(2:Int)^(64-1)=9223372036854775808:=ax0;have av:(2:Int)^64=18446744073709551616:=ax0;simp[IntKind.wrap,IntKind.signed,IntKind.bits,sh,av,aB',aAi];omega
theorem Pn{t e sz bt:Nat}{z:List ah}{k:IntKind}{n:Int}(hu:P.underlying t=some (.slice e))(ay:dc P e=some sz)(gu:0<sz)(aO:zeros P e=some z)(kB:bytesOf P e=some bt)(iG:0<bt)(wb:0<=n)(h1:n<=((1099511627776/bt:Nat):Int)):
  ∃vs:List Value,vs.length=n.toNat*sz/\(∀{w:World} {G:bI} {ρ:List Nat},ck w G ρ vs (List.replicate n.toNat z).flatten)/\
   (Instr.makeSlice t (.int k n) (.int k n)).run P w=.ok (.slice (some ⟨w.heap.size,0,none⟩) n.toNat n.toNat) {w with heap:=w.heap.push (.cells ⟨vs⟩ e)}:=by
 obtain⟨i,eg,fO,z2,z3,z4,z5⟩:=n1 aO;have oM:i.bytes=bt:=ayD;have w8:i.size=sz:=ayo;have nu:=axW;refine⟨(List.replicate n.toNat eg.cells.toList).flatten,?_,λ{w G ρ}=>IV z5 _,?_⟩
 .simp_all
 .have hle:=by
   have:n.toNat<=1099511627776/bt:=axW;have:=Nat.mul_le_mul_left bt this;exact aAZ this (Nat.mul_div_le _ _)
  have avh:=aCS wb;have BF:=by
   have:n.toNat<=bt*n.toNat:=Nat.le_mul_of_pos_left _ iG;omega
  have tH:=wrap_small wb axW;have Ii:∀bW:World,(typeInfo e).run P bW=.ok i bW:=λbW=>by simp[typeInfo,aAm,fO]
  have BO:(asInt (.int k n)).run P w=.ok n w:=by simp[asInt,asIntOf]
  have hmul:((bt:Int))*n<=1099511627776:=axZ;have sb:¬(n<0\/(bt:Int)*n>2^48):=axW;unfold Instr.makeSlice;simp only[aAm,eV hu,aAo,BO,aAv,Ii,oM,tH];have az:(decide (n<0)||decide ((bt:Int)*n>2^48)||decide (n<0)||decide (n>n))=false:=axY;simp only[aA5,aAC,aAm,aAv,aAo,run_askRoom,j3 ay,rW fO z2,aBR,newRow,aCA];by_cases agL:n.toNat*sz=0
  .have:n.toNat=0:=by
    rcases Nat.mul_eq_zero.1 agL with h|h
    all_goals omega
   grind
  .grind[Pm]
theorem agM{d t e sz bt b1:Nat}{z:List ah}{l c:Operand}{bC:O}(p:bT n0 gl nt w G ρ lam a st)(a8:o.dst=some d)(bu:d<nt)(bz:o.op=.makeSlice t l c)(qC:a.eval c=a.eval l)(aI:bO P 0 l=some bC)
  (hu:P.underlying t=some (.slice e)) (ay:dc P e=some sz) (gu:0<sz) (aO:zeros P e=some z) (kB:bytesOf P e=some bt) (iG:0<bt) (lZ:b1=1099511627776/bt)
  (hs:step (bx P gl) gl (.mk d sz z bC b1) st K):o.wp P a w (cJ n0 gl nt w G ρ K) Q:=by
 obtain⟨fB,h1⟩:=dQ aI p.rel;simp[step]at hs;split at hs
 .rename_i k n aj;rw[aj]at h1;have hv:=h1.int;obtain⟨aC,hs⟩:=hs;simp at aC;subst lZ;obtain⟨vs,v1,v2,v3⟩:=Pn (P:=P) (w:=w) (k:=k) hu ay gu aO kB iG aC.1 aC.2;have fC:(execOp a.eval o).run P w=.ok (.value (.slice (some ⟨w.heap.size,0,none⟩) n.toNat n.toNat)) {w with heap:=w.heap.push (.cells ⟨vs⟩ e)}:=ayC;have hw:gD w (.cells ⟨vs⟩ e) {w with heap:=w.heap.push (.cells ⟨vs⟩ e)}:=⟨rfl,rfl,rfl⟩;have r7:(ρ++[w.heap.size+1])[st.s.length]?=some (w.heap.size+1):=ayp;refine gb fC (kV p.eO (put_defers _ _ _) ax5 _ (ρ++[w.heap.size+1]) lam _ ?_ (hw.good p.rel.lt (L0:=.obj st.s.length) (n0:=0) axX) (λi b h=>iE i _ h) hs);rw[a8];refine p.rel.y9 hw (aAI bu p.sz) ?_ ?_
  .exact dM.bR (da.refl _ _) (λi b h=>iE i _ h) (λb n h=>⟨rfl,h⟩) (λj b n h=>⟨rfl,h⟩) (wY (LC:=.du st.s.length) hw v2)
  .refine .aN _ _ _ _ _ _ _ r7 (aAd _) ⟨_,e,(0,0),hw.new,?_⟩;simp_all
 .exact hs.elim
def aA8:=@Option.bind_eq_bind
def aAq:=@Option.bind_eq_some_iff
def aCC:=@Nat.eq_zero_or_pos
theorem IX{v:Value}{L:Loc}(h:v=.tuple #[]):di w G ρ lam L v (.tuple []):=by
 subst h;exact .cp (.tuple [] [] .nil)
theorem IY{d:Option Nat}{v:Value}{x:ah}{w':World}(p:bT n0 gl nt w G ρ lam a st)(a8:o.dst=d)(bu:∀t,d=some t->t<nt)(ax:(execOp a.eval o).run P w=.ok (.value v) w')
  {aT:ag} (h:bS gl w' G ρ lam a.tmps aT) (aC:Good w G w' G) (hv:∀L,di w' G ρ lam L v x) (ao:K (aT.dI d x)):o.wp P a w (cJ n0 gl nt w G ρ K) Q:=
 gb ax (IQ h p.eO p.sz bu aC (λ_ _ h=>h) a8 (λ_ _=>hv _) ao)
theorem agN{v:Value}{x:ah}(h:uX v x=true):v.oneCell'=true:=by
 unfold uX at h;split at h<;>first|rfl|grind
theorem agO{v:Value}{x:ah}{L:Loc}{t off n:Nat}{ai:Bool}(h:di w G ρ lam L v x)(iH:wI x=true)(hle:off+n<=(cellsOf x).length)(aO:dc P t=some n)(dB:kq P t=some ai)(j6:ai=false->n=1):
  ∃(V:Array Value) (u:Value),v=.agg V/\(part t V off).run P w=.ok u w/\df w G ρ u (valOf (cellsOf x) off n ai):=by
 have H9:∃vs,v=.agg ⟨vs⟩/\ck w G ρ vs (cellsOf x):=by
  cases x<;>simp[wI]at iH;case agg cs=>
   have cw:=h;cases cw;rename_i vs h;exact⟨vs,rfl,h⟩
  case d y=>
   cases y<;>simp at iH;have cw:=h.iV;cases cw;rename_i vs h;exact⟨vs,rfl,h.D4⟩
 obtain⟨vs,hv,bE⟩:=H9;have aI:=bE.length;cases ai with
 |true=>
  refine⟨⟨vs⟩,.agg ((⟨vs⟩:Array Value).extract off (off+n)),hv,?_,?_⟩
  .simp_all[part,wR,j3]
  .have:(⟨vs⟩:Array Value).extract off (off+n)=⟨(vs.drop off).take n⟩:=by
    simp
   rw[this];exact D5 (LC:=λ_=>.res) axZ λj v y av aW=>.cp (((bE.drop _).take _).get av aW)
 |false=>
  obtain rfl:n=1:=j6 rfl;have aA:off<vs.length:=axW;have fF:=axW;refine⟨⟨vs⟩,vs[off],hv,?_,?_⟩
  .simp_all[part,wR]
  .have ak:(cellsOf x)[off]?=some ((cellsOf x).getD off .undef):=by simp_all
   exact(dn.cp (L:=.res) (bE.get (aAj aA) ak)).snap
theorem agP{d:Option Nat}{t e t1:Nat}{x:Operand}{bA:O}{z:List ah}(p:bT n0 gl nt w G ρ lam a st)(a8:o.dst=d)(bu:∀t,d=some t->t<nt)
  (bz:o.op=.call {callee:=.builtin .clear,args:= #[x],argTypes:= #[t]}) (ak:bO P t1 x=some bA) (hu:P.underlying t=some (.slice e)) (aO:zeros P e=some z)
  (hs:step (bx P gl) gl (.oA d bA z) st K):o.wp P a w (cJ n0 gl nt w G ρ K) Q:=by
 obtain⟨i1,eg,fO,z2,z3,z4,z5⟩:=n1 aO;obtain⟨Bl,kX⟩:=dQ ak p.rel;have fC:∀{w1:World},(Builtin.clear_ #[t] o.type #[a.eval x]).run P w=.ok (.tuple #[]) w1->(execOp a.eval o).run P w=.ok (.value (.tuple #[])) w1:=by
  intro w1 h;simp[execOp,bz,resolve,aAm,aAv,aAo,invoke,builtin,aBU,aAP,aBK,h]
 have zf:∀cF n c,a.eval x=.slice cF n c->n=0->(Builtin.clear_ #[t] o.type #[a.eval x]).run P w=.ok (.tuple #[]) w:=by
  intro cF n c hv ay;subst ay;rw[hv];unfold Builtin.clear_;cases cF<;>simp[aBx,aCi,aAm,eV hu,aAo,aAv]
 simp only[step]at hs;split at hs
 .rename_i i off len cap sz aj;rw[aj]at kX;have hA:=kX;generalize hv:a.eval x=v at hA;cases hA with
  |aN _ _ _ _ eu _ b cN iF tq=>
   split at hs
   .rename_i cs aF;obtain⟨aC,hs⟩:=hs;simp only[aAc]at aC;have qM:=aAn aC.1;have hle:=aAr aC.2;by_cases pH:len=0
    .subst pH;simp at hs;rw[show putCells cs off []=cs from rfl,H8 aF]at hs;exact IY p a8 bu (fC (zf _ _ _ hv rfl)) p.rel (Good.refl p.rel.lt) (λ_=>IX rfl) hs
    .have ft:=by have:=p.rel.ob.at cN;rwa [aF]at this
     have ax:ck w G ρ (List.replicate len eg.cells.toList).flatten (List.replicate len z).flatten:=IV z5 len;obtain⟨bN,b5⟩:=p.rel.Bo (off:=off) cN aF ax;obtain⟨c,E,fz,h1,sh,av,aW,bL⟩:=ft;have wV:(List.replicate len eg.cells.toList).flatten.length=len*sz:=axY;have j6:∀u,u∈(List.replicate len eg.cells.toList).flatten->u.oneCell'=true:=by
      intro u hu;simp at hu;obtain⟨l,⟨_,rfl⟩,hu⟩:=hu;exact agQ aO fO z2 u hu
     have tB:=aBW (P:=P) b off (List.replicate len eg.cells.toList).flatten 0 w
      (λj aK=>by
       rw[aAS,cell_of_block h1];grind)
      (λj aK=>by
       rw[aAS,u5 h1];have:off+j<c.size:=axW;simp_all)
      j6
     have nx:(Builtin.zeroCells eg.cells len).toList=(List.replicate len eg.cells.toList).flatten:=agR len;have dv:(Builtin.clear_ #[t] o.type #[a.eval x]).run P w=.ok (.tuple #[]) (w.setCells b off (List.replicate len eg.cells.toList).flatten):=by
      rw[hv];unfold Builtin.clear_;obtain⟨n,rfl⟩:=Nat.exists_eq_succ_of_ne_zero pH;simp[aBx,aCi,aAm,eV hu,aAo,aAv,rW fO z2,nx,tB]
     grind[IY,IX]
   .exact hs.elim
 .split at hs
  .rename_i sz aj;obtain⟨cF,cap,v1,_,_⟩:=(kX.hr aj).slice;exact IY p a8 bu (fC (zf _ _ _ v1 rfl)) p.rel (Good.refl p.rel.lt) (λ_=>IX rfl) hs
  .exact hs.elim
where
 agQ {e:Nat} {z:List ah} {i:TypeInfo} {eg:Value} (aO:zeros P e=some z) (fO:P.info? e=some i) (z2:i.zero=some eg):∀u,u∈eg.cells.toList->u.oneCell'=true:=by
  intro u hu;unfold zeros at aO;simp only[aA8,aAq]at aO;obtain⟨cs,h1,iQ,sh,z',av,aW⟩:=aO;rw[fO]at sh;simp at sh;subst sh;rw[z2]at av;simp at av;subst av;split at aW
  .rename_i az;simp only[aAc,aAi,aAx]at az;obtain⟨⟨EI,_⟩,zl⟩:=az;obtain⟨j,aK,rfl⟩:=aBs hu;have jM:j<cs.length:=axZ;exact agN (zl (eg.cells.toList[j],cs[j]) (List.mem_iff_getElem?.2 ⟨j,axZ⟩))
  simp_all
 agR {c:Array Value} (n:Nat):(Builtin.zeroCells c n).toList=(List.replicate n c.toList).flatten:=by
  unfold Builtin.zeroCells;rcases aCC c.size with wb|wb
  all_goals simp_all[Pm]
theorem agS{d t len e n t1 t2:Nat}{ai:Bool}{x i:Operand}{bA iQ:O}(p:bT n0 gl nt w G ρ lam a st)(a8:o.dst=some d)(bu:d<nt)(bz:o.op=.index t x i)(ak:bO P t1 x=some bA)(hi:bO P t2 i=some iQ)
  (hu:P.underlying t=some (.array len e)) (ay:dc P e=some n) (dB:kq P e=some ai) (agT:ai=false->n=1)
  (hs:step (bx P gl) gl (.wH d bA iQ len n ai) st K):o.wp P a w (cJ n0 gl nt w G ρ K) Q:=by
 obtain⟨fB,h1⟩:=dQ ak p.rel;obtain⟨jd,sh⟩:=dQ hi p.rel;simp[step]at hs;split at hs
 .rename_i k m aF;rw[aF]at sh;have v2:=sh.int;obtain⟨aC,hs⟩:=hs;simp only[aAc,aAi]at aC;obtain⟨⟨⟨lv,fD⟩,mH⟩,agU⟩:=aC;have hle:=aAr agU;obtain⟨V,v,cc,dv,dz⟩:=agO (P:=P) (off:=m.toNat*n) h1 mH hle ay dB agT;refine p.value a8 bu (v:=v) ?_ (.cp dz) hs;simp_all[execOp,Instr.index,asIntOf,eV,j3]
 .exact hs.elim
theorem agV{d t e:Nat}{fs:Array Field}(p:bT n0 gl nt w G ρ lam a st)(a8:o.dst=some d)(bu:d<nt)(bz:o.op=.alloc t)(avi:P.underlying t=some (.struct fs))
  (aO:(P.info? t).bind (·.zero)=some (.agg ⟨[.pointer none,.slice none 0 0]⟩)) (hs:step (bx P gl) gl (.ak d t e) st K):o.wp P a w (cJ n0 gl nt w G ρ K) Q:=by
 cases hi:P.info? t with
 |none=>simp_all
 |some i=>
  rw[hi]at aO;have ax:(execOp a.eval o).run P w=.ok (.value (.pointer (some ⟨w.heap.size,0,none⟩))) {w with heap:=w.heap.push (.cells #[.pointer none,.slice none 0 0] t)}:=by
   simp[execOp,bz,Instr.alloc,newVar,newRow,aAm,rW hi aO,aAo,aCA,aAv];rfl
  have hw:gD w (.cells #[.pointer none,.slice none 0 0] t) {w with heap:=w.heap.push (.cells #[.pointer none,.slice none 0 0] t)}:=⟨rfl,rfl,rfl⟩;refine gb ax (kV p.eO (put_defers _ _ _) ax5 _ (ρ++[w.heap.size+1]) lam _ ?_ (hw.good p.rel.lt (L0:=.obj st.s.length) (n0:=0) axX) iE hs);rw[a8];have w2:(ρ++[w.heap.size+1])[st.s.length]?=some (w.heap.size+1):=ayp;exact p.rel.y9 hw (aAI bu p.sz) ⟨.pointer none,.slice none 0 0,hw.new,ayl,.inl rfl,.inl ⟨rfl,rfl⟩⟩ (.ptr _ _ _ w2)
def aCk:=@List.mapM_cons
def aCD:=@Option.ite_none_right_eq_some
theorem ax9(h:p:=by assumption):p:=h
theorem ay4(h:p:=by grind[kr,Nat.blt_eq]):p:=h
theorem tI{t e:Nat}(h:wN P t=some e):P.underlying t=some (.slice e):=by
 grind[wN]
theorem Po{t:Nat}{xs:List Operand}{ys:List O}(h:xs.mapM (bO P t)=some ys):h4 (λx y=>∃t,bO P t x=some y) xs ys:=
 (rY h).imp λ_ _ h=>⟨t,h⟩
theorem IZ{f:Operand->Nat->Nat}:∀{xs:List Operand} {k:Nat} {ys:List O},(xs.zipIdx k).mapM (λq=>bO P (f q.1 q.2) q.1)=some ys->h4 (λx y=>∃t,bO P t x=some y) xs ys
 |[],_,ys,h=>by
  have:=rY h;cases this;exact .nil
 |x::xs,k,ys,h=>by
  have:=rY h;cases this with
  |@cons _ y _ ys h1 sh=>
   refine .cons ⟨_,h1⟩ (IZ (k:=k+1) (f:=f) ?_);exact Pp sh
where
 Pp {α β:Type} {f:α->Option β}:∀{l:List α} {bC:List β},h4 (λx y=>f x=some y) l bC->l.mapM f=some bC
  |_,_,.nil=>axX
  |_,_,.cons h1 sh=>by simp[aCk,h1,Pp sh]
theorem avj{x:Option Operand}(h:NZ x=true):∃y,x=some y/\∃k,a.eval y=.int k 0:=by
 unfold NZ at h;split at h
 .rename_i k n;simp at h;subst h;exact⟨_,rfl,k,rfl⟩
 simp_all
theorem agW{d t u:Nat}{op:BinOp}{x y:Operand}{bA y':O}{i:I}(p:bT n0 gl nt w G ρ lam a st)(a8:o.dst=some d)(bu:d<nt)(bz:o.op=.binOp op t x y u)(ak:bO P t x=some bA)(wa:bO P u y=some y')
  (h:(match (generalizing:=false) P.underlying t,op with
   |some .bool,.eql=>some (.eq d false false [0] bA y')
   |some .bool,.neq=>some (.eq d true false [0] bA y')
   |some (.struct _),.eql=>if P.eqGuardType P.depth t=false then(pr P 9 t).map λks=>.eq d false true ks bA y' else none
   |some (.struct _),.neq=>if P.eqGuardType P.depth t=false then(pr P 9 t).map λks=>.eq d true true ks bA y' else none
   |some (.int _),_=>some (.bi d op bA y')
   |some .string,_=>some (.bi d op bA y')
   |some u,.eql=>(yN u y).map λk=>.mA d false k bA
   |some u,.neq=>(yN u y).map λk=>.mA d true k bA
   |_,_=>none)=some i) (hs:step (bx P gl) gl i st K):o.wp P a w (cJ n0 gl nt w G ρ K) Q:=by
 split at h
 .rename_i hu;simp at h;subst h;exact Eb (neg:=false) p a8 bu ax9 ak wa (by simp[pr,kinds,hu]) ayv axX (λ_=>hu) hs
 .rename_i hu;simp at h;subst h;exact Eb (neg:=true) p a8 bu ax9 ak wa (by simp[pr,kinds,hu]) ayv axX (λ_=>hu) hs
 .grind[Option.map_eq_some_iff,Eb,gp]
 .grind[Option.map_eq_some_iff,Eb,gp]
 .grind[Ob]
 .grind[Ob]
 all_goals grind[Option.map_eq_some_iff,afB]
theorem agX{d s t:Nat}{x:Operand}{bA:O}{i:I}(p:bT n0 gl nt w G ρ lam a st)(a8:o.dst=some d)(bu:d<nt)(bz:o.op=.convert s t x)(ak:bO P s x=some bA)
  (h:(match P.underlying s,P.underlying t with
   |some (.int _),some (.int k)=>some (.ci d k bA)
   |some .string,some (.slice e)=>match P.underlying e with
    |some (.int .u8)=>if dc P e=some 1 then some (.h' d bA)else none
    |_=>none
   |some (.slice e),some .string=>match P.underlying e with
    |some (.int .u8)=>if dc P e=some 1 then some (.bs d bA)else none
    |_=>none
   |_,_=>none)=some i) (hs:step (bx P gl) gl i st K):o.wp P a w (cJ n0 gl nt w G ρ K) Q:=by
 split at h
 .grind[aeQ]
 .grind[aga]
 all_goals grind[agb]
theorem Pq{xs:Array Operand}{x:Operand}(h:xs.toList=[x]):xs= #[x]:=aBS h
theorem EJ{xs:Array Operand}{x y:Operand}(h:xs.toList=[x,y]):xs= #[x,y]:=aBS h
theorem Pr{xs:Array TypeId}{x:TypeId}(h:xs.toList=[x]):xs= #[x]:=aBS h
theorem Ps{xs:Array TypeId}{x y:TypeId}(h:xs.toList=[x,y]):xs= #[x,y]:=aBS h
theorem I0{an:eo}{m:fl}{i:I}(p:bT n0 gl nt w G ρ lam a st)(h:jh P an m o=some i)(aY:kr nt o=true)
  (hs:step (bx P gl) gl i st K):o.wp P a w (cJ n0 gl nt w G ρ K) Q:=by
 have bu:∀d,o.dst=some d->d<nt:=ay4;unfold jh at h;split at h;all_goals (try simp only[aA8,aAq,aA0,aAe]at h)
 case h_1=>
  grind[aeJ,Option.map_eq_some_iff,afX,aeI]
 case h_2=>
  grind[af6,N8]
 case h_3=>
  grind[aeL]
 case h_4=>
  rename_i e d bz a8;obtain⟨z,aO,h⟩:=h;split at h
  .unfold yO at h;grind[agV]
  grind[afd,afc]
 case h_5=>
  grind[afg,aff]
 case h_6=>
  rename_i t ps d bz a8;obtain⟨z,aO,dN,aS,h⟩:=h;split at h
  .rename_i EK;simp at h;subst h;have eh:∃d,P.underlying t=some d/\d.isRow=true:=by
    cases hu:P.underlying t with
    |none=>simp_all
    |some d=>simp_all
   refine afz p a8 (bu _ a8) bz aO eh ((rY aS).imp ?_) hs;grind[Option.bind_eq_some_iff]
  simp_all
 case h_7=>
  rename_i t len ps d bz a8;obtain⟨e,he,n,ay,z,aO,h⟩:=h;split at h
  .rename_i aC;simp at aC;simp[aAq,aAe]at h;obtain⟨ys,wa,rfl⟩:=h;have aS:h4 (λx y=>∃t,bO P t x=some y) (ps.toList.map (·.2)) ys:=by
    have sh:=rY wa;clear wa hs aC bz;generalize ps.toList=l at sh;induction sh with
    |nil=>exact .nil
    |cons h1 _ ih=>exact .cons ⟨_,h1⟩ ih
   split at hs
   .exact agK p a8 (bu _ a8) bz (tI he) ay aC.2 aO aC.1.1 aC.1.2 aS hs
   .exact afE p a8 (bu _ a8) bz (tI he) ay aC.2 aO aC.1.1 aC.1.2 aS hs
  simp_all
 case h_8=>
  rename_i t x d bz a8;obtain⟨n,ay,ai,dB,bA,ak,h⟩:=h;split at h
  .rename_i h1;have h1:ai=false->n=1:=axZ;split at h<;>(simp only[aAe]at h;subst h)
   .grind[afh]
   .split at hs
    .rename_i agY;simp at agY;grind[af5]
    grind[afj]
   .rename_i he _;simp at he;grind[afq]
   .rename_i he _;simp at he;grind[afr]
  simp_all
 case h_9=>
  grind[afo,afp]
 case h_10=>
  grind[ae8]
 case h_11=>
  rename_i op t x y u d bz a8;obtain⟨bA,ak,y',wa,h⟩:=h;exact agW p a8 (bu _ a8) bz ak wa h hs
 case h_12=>
  grind[aeP]
 case h_13=>
  grind[agX]
 case h_14=>
  rename_i f xs cs d bz a8;obtain⟨ys,wa,zs,aO,rfl⟩:=h;exact afA p a8 (bu _ a8) bz (Po wa) (Po aO) hs
 case h_15=>
  grind[agh]
 case h_16=>
  rename_i t x lo hi mx d bz a8;obtain⟨bA,ak,h⟩:=h;split at h
  .grind[Option.bind_eq_some_iff,Option.isNone_iff_eq_none,ae0]
  .rename_i e hu;simp only[aAq]at h;obtain⟨n,ay,h⟩:=h
   .split at h
    .grind[Option.map_eq_some_iff,af8]
    split at h
    .grind
    .rename_i H2;simp[aAq,aAe]at h;obtain⟨oI,aI,jj,hh,H0,hm,rfl⟩:=h;refine ae3 p a8 (bu _ a8) bz ak aI hh hm ?_ hu ay hs;simp_all
  simp_all
 case h_17=>
  rename_i t x f d bz a8;split at h
  .rename_i fs hu;split at h
   .rename_i gR bh;split at h
    .rename_i aO;simp at h;obtain⟨bA,ak,rfl⟩:=h;cases pA:dc P gR.type with
     |none=>rw[pA]at aO;simp at aO
     |some n=>
      rw[pA]at aO;exact ae6 p a8 (bu _ a8) bz ak hu bh pA (by simpa using aO) hs
    .simp at h
   .simp at h
  simp_all
 case h_18=>
  rename_i t x f d bz a8;split at h
  .rename_i fs hu;split at h
   .rename_i gR bh;simp only[aAq]at h;obtain⟨n,ay,ai,dB,bA,ak,h⟩:=h;split at h
    .rename_i h1;simp at h;subst h;exact aft p a8 (bu _ a8) bz ak hu bh ay dB (by intro h;subst h;simpa using h1) hs
    .simp at h
   .simp at h
  .simp at h
 case h_19=>
  rename_i t x y d bz a8;obtain⟨bA,ak,y',wa,h⟩:=h;split at h
  .rename_i e hu;simp only[aAq]at h;obtain⟨n,ay,h⟩:=h;split at h
   .rename_i hp;simp at h;subst h;exact ae1 p a8 (bu _ a8) bz ak wa hu ay (by simpa using hp) hs
   .simp at h
  .rename_i len e hu;simp only[aAq]at h;obtain⟨n,ay,h⟩:=h;split at h
   .simp at h;subst h;exact ae7 p a8 (bu _ a8) bz ak wa hu ay hs
   .simp at h
  .simp at h
 case h_20=>
  rename_i t x y d bz a8;obtain⟨bA,ak,y',wa,h⟩:=h;split at h
  .rename_i hu;simp at h;subst h;exact aeZ p a8 (bu _ a8) bz ak wa hu hs
  .rename_i len e hu;simp only[aAq]at h;obtain⟨n,ay,ai,dB,h⟩:=h;split at h
   .rename_i h1;simp at h;subst h;exact agS p a8 (bu _ a8) bz ak wa hu ay dB (by intro h;subst h;simpa using h1) hs
   .simp at h
  .simp at h
 case h_21=>
  rename_i t l c d bz a8;obtain⟨e,he,z,aO,n,ay,b,au,h⟩:=h;split at h
  .rename_i aC;simp at aC;simp[aAq,aAe]at h;obtain⟨bC,aI,rfl⟩:=h;have qC:a.eval c=a.eval l:=by
    have:=aC.1.1;unfold HG at this;split at this
    .rw[aAn this]
    .simp at this
   exact agM p a8 (bu _ a8) bz qC aI (tI he) ay aC.1.2 aO au aC.2 rfl hs
  .simp at h
 case h_22=>
  rename_i t x k ok d bz a8;obtain⟨bA,ak,h⟩:=h;split at h
  .rename_i fr nV hu;simp[aAq,aAe]at h;obtain⟨k',aq,z,aO,ks,j4,rfl⟩:=h;exact agj p a8 (bu _ a8) bz ak aq hu aO j4 rfl hs
  .simp at h
 case h_23=>
  rename_i t x k v bz a8;obtain⟨bA,ak,h⟩:=h;split at h
  .rename_i fr nV hu;simp[aAq,aAe]at h;obtain⟨ks,j4,k',aq,v',hv,rfl⟩:=h;exact agq p a8 bz ak aq hv hu j4 rfl hs
  .simp at h
 case h_24=>
  rename_i x j d bz a8;obtain⟨bA,ak,rfl⟩:=h;exact ae5 p a8 (bu _ a8) bz ak hs
 case h_25=>
  rename_i c bz;split at h
  .rename_i f az;simp only[aAq]at h;obtain⟨ys,wa,h⟩:=h;have wa:=IZ (f:=λ_ i=>c.argTypes.getD i 0) wa;split at h
   .split at h
    .rename_i k x y d he a8 _;simp[aAe]at h;subst h;generalize xh:c.args.toList=al at wa;cases wa with
     |cons h1 wa=>cases wa with
      |cons sh wa=>
       cases wa;obtain⟨t1,h1⟩:=h1;obtain⟨t2,sh⟩:=sh;exact ae' p a8 (bu _ a8) bz az xh he h1 sh hs
    .simp[aAe]at h;subst h;exact Ph (t:=0) p rfl bu bz az rfl wa hs
   .simp[aAq,aAe]at h;obtain⟨tJ,bh,rfl⟩:=h;exact Ph p rfl bu bz az bh wa hs
  .rename_i az;split at h
   .rename_i x t d h1 sh a8;obtain⟨va,ca,cD⟩:=c;replace h1:=Pq h1;replace sh:=Pr sh;simp only at az;subst az;replace h1:=h1;replace sh:=sh;subst h1 sh;split at h
    .rename_i hu;simp[aA0]at h;obtain⟨bA,ak,rfl⟩:=h;exact Oo (str:=true) p a8 (bu _ a8) bz ak (by simpa using hu) hs
    .rename_i e hu;simp[aA0]at h;obtain⟨bA,ak,rfl⟩:=h;exact Oo (str:=false) p a8 (bu _ a8) bz ak (by simpa using ⟨e,hu⟩) hs
    .simp at h
   .simp at h
  .rename_i az;split at h
   .rename_i s x t u d h1 sh a8;obtain⟨va,ca,cD⟩:=c;replace h1:=EJ h1;replace sh:=Ps sh;simp only at az;subst az;replace h1:=h1;replace sh:=sh;subst h1 sh;simp only[aAq]at h;obtain⟨e,he,n,ay,b,au,z,aO,h⟩:=h;obtain⟨bA,ak,h⟩:=h;have key:∀desc,P.underlying u=some desc->tv desc=true->(0<n/\0<b)->some (if dk d an.objs=true then I.nj d s bA n (140737488355328/b)else if dk d an.uW=true then I.nk d s bA n (140737488355328/b)else I.ap d s bA n (140737488355328/b))=some i->o.wp P a w (cJ n0 gl nt w G ρ K) Q:=by
     intro desc hu jL aC h;simp[aAe]at h;subst h;split at hs
     .exact Ip (nw:=true) (rw:=false) p a8 (bu _ a8) bz ak (tI he) ay aC.1 au aC.2 rfl aO hu jL hs
     split at hs
     .exact Ip (nw:=true) (rw:=true) p a8 (bu _ a8) bz ak (tI he) ay aC.1 au aC.2 rfl aO hu jL hs
     .exact Ip (nw:=false) (rw:=false) p a8 (bu _ a8) bz ak (tI he) ay aC.1 au aC.2 rfl aO hu jL hs
    split at h
    .rename_i hu;simp only[aB',aAc,aAi,aCD]at h;exact key _ hu rfl h.1 h.2
    .rename_i hu;simp only[aB',aAc,aAi,aCD]at h;exact key _ hu rfl h.1 h.2
    .simp at h
   .simp at h
  .rename_i az;split at h
   .rename_i x t h1 sh;obtain⟨va,ca,cD⟩:=c;replace h1:=Pq h1;replace sh:=Pr sh;simp only at az;subst az;replace h1:=h1;replace sh:=sh;subst h1 sh;split at h
    .rename_i e hu;simp only[aAq,aAe]at h;obtain⟨z,aO,bA,ak,rfl⟩:=h;exact agP p rfl bu bz ak hu aO hs
    .simp at h
   .simp at h
  .rename_i az;split at h
   .rename_i x y d h1 a8;obtain⟨va,ca,cD⟩:=c;replace h1:=EJ h1;simp only at az;subst az;replace h1:=h1;subst h1;simp only[aAq,aAe]at h;obtain⟨bA,ak,y',wa,rfl⟩:=h;exact Oq (lt:=false) p a8 (bu _ a8) bz ak wa hs
   .simp at h
  .rename_i az;split at h
   .rename_i x y d h1 a8;obtain⟨va,ca,cD⟩:=c;replace h1:=EJ h1;simp only at az;subst az;replace h1:=h1;subst h1;simp only[aAq,aAe]at h;obtain⟨bA,ak,y',wa,rfl⟩:=h;exact Oq (lt:=true) p a8 (bu _ a8) bz ak wa hs
   .simp at h
  .simp at h
 grind
end
def aAF:=@List.mem_singleton
theorem dn.agZ{w:World}{G:bI}{ρ:List Nat}{L:Loc}{v:Value}{sz:Nat}{l:List D}(h:dn w G ρ L v (.own sz l)):df w G ρ v (.own sz l)\/∃u7 d e5,ah.own sz l=.own u7 (d::e5)/\lU w G L v u7 (d::e5):=by
 cases l with
 |nil=>exact .inl h
 |cons d l=>exact .inr ⟨_,_,_,rfl,h⟩
section
variable {P:Program}{gl:Nat->List D}{n0 nt:Nat}{a:Act}{w w':World}{G G':bI}{ρ ρ':List Nat}{lam lam':Nat->Option Nat}{st aT:ag}{K:ag->Prop}{o:Oper}{Q:Exit->Act->World->Prop}
theorem ag0{d s b off cap sz:Nat}{tmps:Array Value}{c c':Array Value}{E:TypeId}{fz:Nat×Nat}{vs us:List Value}{q:D}{e5 l2:List D}{w1:World}(dz:bS gl w G ρ lam tmps st)
  (avk:(q::e5).length<=cap) (av:w.heap[b]?=some (.cells c E fz)) (aW:∀j,j<c.size->¬(fz.1<=j/\j<fz.2)) (bL:off+cap*sz<=c.size) (cW:0<sz) (hx:G b=some (.slot s,off+(q::e5).length*sz)) (hI:∀d,d∈q::e5->d.cells.length=sz)
  (iD:iT w G b off vs) (kU:cl w G vs ((q::e5).flatMap D.cells)) (mI:(q::e5).length+l2.length<=cap) (lu:cl w G us (l2.flatMap D.cells)) (j6:∀u,u∈us->u.oneCell'=true) (jm:∀d,d∈l2->d.cells.length=sz)
  (mJ:w1.heap[b]?=some (.cells c' E fz)) (w9:c'.size=c.size) (tA:∀j,j<off+(q::e5).length*sz->c'[j]?=c[j]?) (r3:∀j v,us[j]?=some v->c'[off+(q::e5).length*sz+j]?=some v)
  (r4:∀cj,cj≠b->w1.heap[cj]?=w.heap[cj]?) (r5:w1.heap.size=w.heap.size) (ag1:w1.os=w.os) (ag2:w1.output=w.output):
  ∃G',bS gl w1 G' ρ lam tmps (st.set s .undef)/\Good w G w1 G'/\dn w1 G' ρ (.slot d) (.slice (some ⟨b,off,none⟩) ((q::e5).length+l2.length) cap) (.own sz (q::e5++l2)):=by
 have oJ:vs.length=(q::e5).length*sz:=ayn;have tr:us.length=l2.length*sz:=ayn;obtain⟨aq,h6,dD,Bu⟩:=Eo (w:=w) (L':=.slot d) (m':=off+((q::e5).length+l2.length)*sz) hx axZ av mJ tA (aB9 w9.symm) r4 r5 dz.lt axX axX ag1 ag2;refine⟨_,⟨λt=> ?_,?_,dz.nb,dz.ob.bR aq (λ_=>h6 _ axX) (λ_ _=>h6 _ axX),dz.eU.bR aq,Bu⟩,dD,?_⟩
 .simp only[ag.set,dh];by_cases hB:t=s
  .simp[hB,if_true];exact .cp (.undef _)
  .simp only[hB,aAC];exact(dz.aR t).bR aq (λ_ _ h=>h) (λ_ _ h=>h) (h6 _ axY)
 .intro t cs au;obtain⟨a6,g1,g2⟩:=dz.bH t cs au;exact⟨a6,g1,dM.bR aq (λ_ _ h=>h) (h6 _ axX) (λj=>h6 _ axX) g2⟩
 .have oK:(q::e5++l2).length=(q::e5).length+l2.length:=aAA;refine⟨b,off,cap,c',E,fz,vs++us,axY,axY,mJ,axY,axW,cW,?_,?_,?_,?_⟩
  .simp_all[iC]
  .intro d aY;rcases aAT.1 (show d∈(q::e5)++l2 from aY)with h|h
   all_goals grind
  .intro j v hv;rcases aA1 j vs.length with aK|aK
   .rw[aAY aK]at hv;exact aq.1 _ _ _ (iD j v hv)
   .rw[aA7 aK]at hv;have jM:j-vs.length<us.length:=axZ;refine⟨?_,?_,j6 v (aAM hv)⟩
    .rw[cell_of_block mJ];have:=r3 (j-vs.length) v hv;grind
    .intro jd n dA;grind[iC]
  .have:=(kU.keep aq).append (lu.keep aq);simp_all
theorem I1{b:Nat}{us:List Value}{k:Nat}{w:World}{c:Array Value}{E:TypeId}{fz:Nat×Nat}(h:w.heap[b]?=some (.cells c E fz))(aI:k+us.length<=c.size):
  ∃c',(w.setCells b k us).heap[b]?=some (.cells c' E fz)/\c'.size=c.size/\(∀j,j<k\/k+us.length<=j->c'[j]?=c[j]?)/\(∀j v,us[j]?=some v->c'[k+j]?=some v)/\
   (∀cj,cj≠b->(w.setCells b k us).heap[cj]?=w.heap[cj]?)/\(w.setCells b k us).heap.size=w.heap.size:=by
 have:=Bq (b:=b) (m:=0) (us:=us) (k:=k) h axW;simp_all
theorem Pt{b off t:Nat}{v:Value}{c:Array Value}{E:TypeId}{fz:Nat×Nat}(aj:w.heap[b]?=some (.cells c E fz))(aF:∀j,j<c.size->¬(fz.1<=j/\j<fz.2))(ay:off+v.cells.size<=c.size)(aO:dc P t=some v.cells.size)(h1:∀u∈v.cells.toList,u.oneCell'=true):
  (Instr.storeAt t (.pointer (some ⟨b,off,none⟩)) v).run P w=.ok () (w.setCells b off v.cells.toList):=by
 have:=aBW (P:=P) b off v.cells.toList 0 w
  (λj aK=>by
   rw[aAS,cell_of_block aj];grind)
  (λj aK=>by
   rw[aAS,u5 aj];have aA:off+j<c.size:=axZ;simp_all)
  h1
 simp_all[Instr.storeAt,Instr.sureAddr,storeVar,j3]
structure I2(P:Program)(cY cO eH:Oper)(d s z i e sz b1:Nat)(y:O):Prop where
 ex:∃(t u b2 bt:Nat) (sc:List ah) (x:Operand) (t3:Nat),cY.op=.call {callee:=.builtin .append,args:= #[.tmp s,.tmp z],argTypes:= #[t,u]}/\cY.dst=some d/\cY.guard=none/\
  cO.op=.indexAddr t (.tmp d) (.tmp i)/\cO.dst=some e/\cO.guard=none/\eH.op=.store b2 (.tmp e) x/\eH.dst=none/\eH.guard=none/\
  P.underlying t=some (.slice b2)/\P.underlying u=some (.slice b2)/\dc P b2=some sz/\bytesOf P b2=some bt/\zeros P b2=some sc/\bO P t3 x=some y/\0<sz/\0<bt/\b1=140737488355328/bt/\
  d≠i/\e≠d/\e≠i/\(∀q,y=.t q->q≠e/\q≠d)
theorem vb{an:eo}{cY cO eH:Oper}{d e:Nat}{ins:I}(h:A9 P an cY cO eH=some (d,ins,e)):∃s z i y sz b1,ins=.kO d s z i y sz b1/\I2 P cY cO eH d s z i e sz b1 y:=by
 unfold A9 at h;split at h
 .rename_i c d0 t2 d2 i aF t3 aZ x h1 sh av aW bL cW;split at h
  .rename_i s z t u az bp aE;simp only[aA8,aAq]at h;obtain⟨b2,Iz,avl,ag3,n,ay,b,au,sc,EL,y,wa,h⟩:=h;split at h
   .rename_i aC;obtain⟨rfl,rfl,rfl⟩:=h;simp at aC;obtain⟨⟨⟨⟨⟨⟨⟨⟨⟨⟨⟨⟨⟨⟨⟨g1,g2⟩,g3⟩,g4⟩,g5⟩,g6⟩,g7⟩,g8⟩,g9⟩,g10⟩,g11⟩,g12⟩,g13⟩,g14⟩,g15⟩,g16⟩:=aC;subst g1 g2 g3 g4 g5;refine⟨s,z,i,y,n,_,rfl,⟨t2,u,t3,b,sc,x,t3,?_,sh,g14,av,aW,g15,bL,cW,g16,tI Iz,tI ag3,ay,au,EL,wa,axW,g13,rfl,g6,g7,?_,?_⟩⟩
    .obtain⟨va,ca,cD⟩:=c;grind[EJ,Ps]
    .rintro rfl;simp_all[dk]
    .intro q aS;constructor
     .rintro rfl;simp_all[O.slots,dk]
     .rintro rfl;simp_all[O.slots,dk]
   simp_all
  simp_all
 simp_all
def Pu(P:Program)(gl:Nat->List D)(w:World)(G:bI)(ρ:List Nat)(lam:Nat->Option Nat)(a:Act)(st:ag)(K:ag->Prop)(cY cO eH:Oper)(d s i e:Nat):Prop:=
  ∃(v1 v2:Value) (w1:World) (b pos:Nat) (us:List Value) (xo:Operand) (cr:ah) (G':bI) (n:Nat) (c1:Array Value) (E:TypeId) (fz:Nat×Nat),eH.op.operands.toList=[.tmp e,xo]/\
   (execOp a.eval cY).run P w=.ok (.value v1) w1/\
   (∀(a':Act) (w':World),a'.tmps.getD d undef=v1->a'.tmps.getD i undef=a.tmps.getD i undef->(execOp a'.eval cO).run P w'=.ok (.value v2) w')/\
   (∀(a':Act) (w':World),a'.tmps.getD e undef=v2->a'.eval xo=a.eval xo->w'.heap[b]?=some (.cells c1 E fz)->(execOp a'.eval eH).run P w'=.ok .skip (w'.setCells b pos us))/\
   w1.heap[b]?=some (.cells c1 E fz)/\pos+us.length<=c1.size/\G' b=some (.slot d,n)/\
   bS gl (w1.setCells b pos us) G' ρ lam a.tmps (st.set s .undef)/\Good w G (w1.setCells b pos us) G'/\di (w1.setCells b pos us) G' ρ lam (.slot d) v1 cr/\K ((st.set s .undef).set d cr)
theorem EM{cY cO eH:Oper}{d s z i e sz b1:Nat}{y:O}(p:bT n0 gl nt w G ρ lam a st)(ak:I2 P cY cO eH d s z i e sz b1 y)(hs:step (bx P gl) gl (.kO d s z i y sz b1) st K):
  Pu P gl w G ρ lam a st K cY cO eH d s i e:=by
 obtain⟨t,u,b2,bt,sc,x,t3,q1,bF,cE,ei,gF,jD,oP,pI,qN,hu,tk,cg,kB,EL,wa,gu,iG,lZ,gG,ic,vd,n4⟩:=ak.ex;obtain⟨i1,eg,hi,n3,r2,gw,_⟩:=n1 EL;have oM:i1.bytes=bt:=ayD;have w8:eg.cells.size=sz:=ayo;simp[step]at hs;split at hs
 .rename_i ej l dt ag4 k n kQ aj aF aZ bP;obtain⟨aC,hs⟩:=hs;simp only[aAc,aAi]at aC;obtain⟨⟨⟨⟨⟨g1,g2⟩,g3⟩,g4⟩,g5⟩,g6⟩:=aC;obtain rfl:ej=sz:=aAn g1;obtain rfl:dt=ej:=aAn g2;have g4:=aAr g4;have g5:=aAn g5;obtain⟨Bl,kX⟩:=dQ wa p.rel;have I3:=kX.hq bP;have I4:=I3.OE;have qO:(a.eval x).cells.size=dt:=by grind[Array.length_toList,cl.length]
  have Pv:(a.eval x).cells.toList.length=dt:=axW;have I5:=by
   have:=OH (vs:=(a.eval x).cells.toList) (l:=[kQ]) (by simpa using I4) axY;omega
  have ag5:=p.rel.aR z;obtain⟨ve,w7,OP,pH⟩:=Ig (P:=P) ag5 aF gu;obtain⟨hlen,qH,ag6,Pw⟩:=w7;have Pw:ve.length=dt:=axY;have n6:=p.rel.aR s;rw[aj]at n6;have y8:=n6;have n5:=by
   have:=aAV bt g4;rw[lZ]at this;exact aAZ this (aB8 _ _)
  have Px:=p.rel.aR i;rw[aZ]at Px;have xi:=Px.int;have EN:∀(b off len cap:Nat) (a':Act) (w':World),len=l.length+1->a'.tmps.getD d undef=.slice (some ⟨b,off,none⟩) len cap->a'.tmps.getD i undef=a.tmps.getD i undef->
    (execOp a'.eval cO).run P w'=.ok (.value (.pointer (some ⟨b,off+l.length*dt,none⟩))) w':=by
   intro b off len cap a' w' ag7 xj jj;have h1:a'.eval (.tmp d)=.slice (some ⟨b,off,none⟩) len cap:=xj;have sh:a'.eval (.tmp i)=.int k n:=by show a'.tmps.getD i undef=_;simp_all
   have av:0<=n/\n<(len:Int):=axW;have aW:n.toNat=l.length:=axW;simp[execOp,ei,h1,sh,Instr.indexAt,asIntOf,aAm,aAv,aAo,eV hu,aAD av,j3 cg,aA',aW]
  have EO:∀(b pos:Nat) (c1:Array Value) (E:TypeId) (fz:Nat×Nat),(∀j,j<c1.size->¬(fz.1<=j/\j<fz.2))->pos+dt<=c1.size->∀(a':Act) (w':World),a'.tmps.getD e undef=.pointer (some ⟨b,pos,none⟩)->a'.eval x=a.eval x->
    w'.heap[b]?=some (.cells c1 E fz)->(execOp a'.eval eH).run P w'=.ok .skip (w'.setCells b pos (a.eval x).cells.toList):=by
   intro b pos c1 E fz aDm hle a' w' EB kY eZ;have h1:a'.eval (.tmp e)=.pointer (some ⟨b,pos,none⟩):=EB;have:=Pt (P:=P) (t:=b2) (v:=a.eval x) eZ aDm (by rw[qO];omega) axZ I5;simp[execOp,oP,h1,kY,aAm,this,aAo,aAv]
  have grow:∀(cF:Option Addr) (cap:Nat) (olds:List Value),a.tmps.getD s undef=.slice cF l.length cap->(∀bW:World,bW.heap=w.heap->(Builtin.firstCells dt l.length (.slice cF l.length cap)).run P bW=.ok ⟨olds⟩ bW)->
    cl w G olds (l.flatMap D.cells)->(∀u,u∈olds->u.oneCell'=true)->(∀d,d∈l->d.cells.length=dt)->cap<l.length+1->Pu P gl w G ρ lam a st K cY cO eH d s i e:=by
   intro cF cap olds hv hold holds y7 aI aA;obtain⟨eu,w1,dv,Eu,h5⟩:=y5 (P:=P) (ty:=cY.type) (base:=cF) (x:=a.tmps.getD z undef) hu cg hi oM n3 tk rfl hlen qH hold aA iG n5;rw[<-hv]at dv;replace Eu:l.length+1<=eu:=by omega
   have Ev:olds.length=l.length*dt:=by rw[holds.length];exact qA aI
   have nx:(Builtin.zeroCells eg.cells (eu-(l.length+1))).toList.length=(eu-(l.length+1))*dt:=by
    simp[Builtin.zeroCells,w8]
   have EI:w1.heap[w.heap.size]?=some (.cells ⟨(olds++ve)++(Builtin.zeroCells eg.cells (eu-(l.length+1))).toList⟩ b2 (0,0)):=h5.new;have tC:l.length*dt+(a.eval x).cells.toList.length<=(⟨(olds++ve)++(Builtin.zeroCells eg.cells (eu-(l.length+1))).toList⟩:Array Value).size:=by
    simp;omega
   obtain⟨c3,b',cr,dE,nA,xk,tK⟩:=I1 (us:=(a.eval x).cells.toList) (k:=l.length*dt) EI tC;have zm:c3=⟨(olds++(a.eval x).cells.toList)++(Builtin.zeroCells eg.cells (eu-(l.length+1))).toList⟩:=by
    apply aBS;apply aBV;intro j;rw[Array.getElem?_toList];rcases aA1 j (l.length*dt)with aK|aK
    .rw[dE j (.inl aK),aBx,aBj,aBj,aAY axW,aAY axW]
    .rcases aA1 j (l.length*dt+dt)with jM|jM
     .have I6:j-l.length*dt<(a.eval x).cells.toList.length:=by omega
      have:=nA (j-l.length*dt) _ (aAj I6);rw[show l.length*dt+(j-l.length*dt)=j by omega]at this;rw[this,aBj,aA7 axW,Ev,aAY I6,aAj I6]
     .rw[dE j (.inr axW),aBx,aBj,aBj,aA7 axW,aA7 axW,aA7 axW,aA7 axW,Pw,Pv]
   subst zm;have mH:gD w (.cells ⟨(olds++(a.eval x).cells.toList)++(Builtin.zeroCells eg.cells (eu-(l.length+1))).toList⟩ b2) (w1.setCells w.heap.size (l.length*dt) (a.eval x).cells.toList):=by
    refine⟨?_,oL.1.trans h5.os,oL.2.trans h5.out⟩;apply Array.ext_getElem?;intro j;by_cases aK:j=w.heap.size
    .subst aK;rw[b',aCf];simp
    .rw[xk j aK,h5.heap,aCf,aCf,aAG aK,aAG aK]
   have tz:(l++[kQ]).length=l.length+1:=axX;have gT:∀d,d∈l++[kQ]->d.cells.length=dt:=by
    intro d aY;rcases aAT.1 aY with h|h
    .exact aI d h
    .rw[aAF.1 h];omega
   have jl:=Ib (ρ:=ρ) (d:=d) (cap:=eu) mH gu gT axX (by rw[aCW];exact holds.append (by simpa using I4)) axW
    (by
     rw[aAA,aAA,Ev,nx,Pv,show l.length*dt+dt=(l.length+1)*dt by grind,<-Nat.add_mul];grind)
    axX (λv hv=>by
     rcases aAT.1 hv with h|h
     .exact y7 v h
     .exact I5 v h)
   rw[tz]at jl;have fC:(execOp a.eval cY).run P w=.ok (.value (.slice (some ⟨w.heap.size,0,none⟩) (l.length+1) eu)) w1:=r6 q1 dv;refine⟨_,_,w1,w.heap.size,l.length*dt,(a.eval x).cells.toList,x,_,fP w G (.slot d) ((l.length+1)*dt),(l.length+1)*dt,_,b2,(0,0),by rw[oP];rfl,fC,?_,EO _ _ _ _ _ axX axW,EI,tC,ayl,mH.rel p.rel.lt p.rel.drop,mH.good p.rel.lt axX,.lV jl,hs⟩;intro a' w' xj jj;have:=EN w.heap.size 0 (l.length+1) eu a' w' rfl xj jj;grind
  rcases y8.agZ with hA|⟨u7,nB,e5,heq,eA⟩
  .have:l=[]/\∃cF,a.tmps.getD s undef=.slice cF 0 0:=by
    cases hv:a.tmps.getD s undef<;>rw[hv]at hA<;>cases hA;simp
   obtain⟨rfl,cF,hv⟩:=this;refine grow cF 0 [] hv (λbW _=> ?_) .nil axX axX axX;cases cF with
   |none=>rfl
   |some cF=>simp[Builtin.firstCells,aA6,aBy];rfl
  .simp at heq;obtain⟨rfl,rfl⟩:=heq;obtain⟨b,off,cap,c,E,fz,vs,h1,sh,av,aW,bL,cW,hx,hI,iD,kU⟩:=eA;have oJ:vs.length=(nB::e5).length*dt:=by rw[kU.length];exact qA hI
   by_cases mI:(nB::e5).length+1<=cap
   .have Ew:off+(nB::e5).length*dt+dt<=c.size:=by
     have:((nB::e5).length+1)*dt<=cap*dt:=aAV _ mI;grind
    obtain⟨c1,de,dp,dF,lz,sd,zn⟩:=I1 (us:=ve) (k:=off+(nB::e5).length*dt) av axW;have tC:off+(nB::e5).length*dt+(a.eval x).cells.toList.length<=c1.size:=axW;obtain⟨c3,b',cr,dE,nA,xk,tK⟩:=I1 (us:=(a.eval x).cells.toList) (k:=off+(nB::e5).length*dt) de tC;have tB:=aBW (P:=P) b (off+(nB::e5).length*dt) ve 0 w
     (λj aK=>by
      rw[aAS,cell_of_block av];have:off+(nB::e5).length*dt+j<c.size:=axW;rw[aA3 this];rfl)
     (λj aK=>by
      rw[aAS,u5 av];have:off+(nB::e5).length*dt+j<c.size:=axW;have:=aW _ this;grind)
     ag6
    rw[aAS]at tB;have dv:=w6 (P:=P) (ty:=cY.type) (n:=(nB::e5).length) (m:=1) (cap:=cap) (base:=some ⟨b,off,none⟩) (w1:=w.setCells b (off+(nB::e5).length*dt) ve) hu cg tk rfl hlen (qH w rfl) mI
     (show(storeCells ((⟨b,off,none⟩:Addr).add _) ve).run P w=_ by rw[aA'];omega)
    rw[<-h1]at dv;have fC:=r6 (a:=a) (x:=.tmp z) q1 dv;obtain⟨G',bN,b5,dq⟩:=ag0 (d:=d) (us:=(a.eval x).cells.toList) (l2:=[kQ]) (w1:=(w.setCells b (off+(nB::e5).length*dt) ve).setCells b (off+(nB::e5).length*dt) (a.eval x).cells.toList) p.rel sh av aW bL cW hx hI iD kU mI
     (by simpa using I4) I5 (by simpa using g5) b' (cr.trans dp) (λj aK=>(dE j (.inl aK)).trans (dF j (.inl aK))) nA (λcj eZ=>(xk cj eZ).trans (sd cj eZ)) (tK.trans zn) (oL.1.trans oL.1) (oL.2.trans oL.2)
    have BP:∃n,G' b=some (.slot d,n):=by
     obtain⟨a6,avm,qJ,c2,u6,qG,oN,k1,k2,fX,jn,qL,BQ,I7,_⟩:=dq;simp at k1;obtain⟨⟨rfl,_⟩,_⟩:=k1;exact⟨_,I7⟩
    obtain⟨ag8,BP⟩:=BP;refine⟨_,_,_,b,off+(nB::e5).length*dt,(a.eval x).cells.toList,x,_,G',ag8,c1,E,fz,by rw[oP];rfl,fC,?_,EO _ _ _ _ _ (by rw[dp];omega) axW,de,tC,BP,bN,b5,.lV dq,hs⟩;intro a' w' xj jj;exact EN b off _ cap a' w' rfl xj jj
   .refine grow (some ⟨b,off,none⟩) cap vs h1 (λbW hw=> ?_) kU iD.one hI axW;simp only[Builtin.firstCells];rw[<-oJ];exact aBX (P:=P) bW ⟨b,off,none⟩ vs (λj v hv=>by
     rw[aA',Er hw];exact(iD j v hv).1)
 .exact hs.elim
def aCE:=@Nat.blt_eq
theorem ayq(h:p:=by grind[fA,Nat.blt_eq]):p:=h
theorem tL{l:List Nat}{m i b:Nat}(hi:i<m)(h:l[i]?=some b):(l.take m)[i]?=some b:=axY
theorem Py{m:Nat}:∀(n:Nat) {v:Value} {x:ah},df w G ρ v x->fA m n x=true->df w G (ρ.take m) v x:=by
 intro n;induction n with
 |zero=>
  intro v x h bd;cases h with
  |undef v=>exact .undef v
  |d _ _ h=>exact .d _ _ h
  |nil a s=>exact .nil a s
  |ptr _ _ _ h=>exact .ptr _ _ _ (tL ayq h)
  |map _ _ h=>exact .map _ _ (tL ayq h)
  |aN _ _ _ _ _ _ _ h az aO=>exact .aN _ _ _ _ _ _ _ (tL ayq h) az aO
  |func _ _ _ _ _ _ _=>grind[fA]
  |agg _ _ _=>grind[fA]
  |tuple _ _ _=>grind[fA]
  |fY _ _ h=>exact .fY _ _ (tL ayq h)
 |succ n ih=>
  have bE:∀{vs:List Value} {xs:List ah},ck w G ρ vs xs->(∀x,x∈xs->fA m n x=true)->ck w G (ρ.take m) vs xs:=by
   intro vs;induction vs with
   |nil=>intro xs h _;cases h;exact .nil
   |cons v vs IE=>
    intro xs h bd;cases h with
    |cons _ x _ xs h1 sh=>exact .cons _ _ _ _ (ih h1 (bd x axX)) (IE sh λy wa=>bd y axZ)
  intro v x h bd;cases h with
  |undef v=>exact .undef v
  |d _ _ h=>exact .d _ _ h
  |nil a s=>exact .nil a s
  |ptr _ _ _ h=>exact .ptr _ _ _ (tL ayq h)
  |map _ _ h=>exact .map _ _ (tL ayq h)
  |aN _ _ _ _ _ _ _ h az aO=>exact .aN _ _ _ _ _ _ _ (tL ayq h) az aO
  |func _ _ _ _ _ h1 sh=>
   simp[fA,aCX,aAc,aAx]at bd;exact .func _ _ _ _ _ (bE h1 bd.1) (bE sh bd.2)
  |agg _ _ h1=>
   simp[fA,aAx]at bd;exact .agg _ _ (bE h1 bd)
  |tuple _ _ h1=>
   simp[fA,aAx]at bd;exact .tuple _ _ (bE h1 bd)
  |fY _ _ h=>exact .fY _ _ (tL ayq h)
theorem I8{m n:Nat}{L:Loc}{v:Value}{x:ah}(h:dn w G ρ L v x)(bd:fA m n x=true):dn w G (ρ.take m) L v x:=by
 rcases h.cases with h|⟨sz,l,rfl,eA⟩|⟨sz,m,us,rfl,eA⟩
 .grind[Py,dn.cp]
 .exact .yU eA
 .exact eA
theorem Pz{m b:Nat}{L:Loc}{LC:Nat->Loc}{cs:List ah}(h:dM w G ρ b L LC cs)(bd:cs.all (fA m depth)=true):dM w G (ρ.take m) b L LC cs:=by
 obtain⟨c,E,fz,h1,sh,av,aW,bL⟩:=h;exact⟨c,E,fz,h1,sh,av,aW,λj v x hv ak=>I8 (bL j v x hv ak) (aAx.1 bd x (aAM ak))⟩
theorem PA{m:Nat}{s:aU}(h:ht w G ρ s)(bd:(s.take m).all (b9.fA m)=true):ht w G (ρ.take m) (s.take m):=by
 refine⟨by simp[h.1],?_⟩;intro i b o au hs;rw[aBQ]at au hs;split at au
 .rename_i hi;rw[aAD hi]at hs;have EP:=aAx.1 bd o (aAM (i:=i) axY);have ax:=h.2 i b o au hs;cases o with
  |box cs=>exact Pz ax EP
  |map es=>
   obtain⟨mes,clock,h1,sh,av,aW⟩:=ax;refine⟨mes,clock,h1,sh,av,λj e p he hp=>⟨(aW j e p he hp).1,Py depth (aW j e p he hp).2 ?_⟩⟩;grind[b9.fA]
  |dead=>trivial
  |hU t e bs=>exact ax
  |rE m=>
   rcases ax with ax|⟨k,a6,since,last,h1,sh,av⟩
   .exact .inl ax
   .subst h1;simp[b9.fA,Option.all_some,aCE]at EP;exact .inr ⟨k,a6,since,last,rfl,axY,av⟩
 simp_all
theorem I9(aR:Nat->ah)(t:Nat):∀ts:List Nat,s9 aR ts t=if t∈ts then aR t else .undef
 |[]=>by simp[s9]
 |s::ts=>by
  simp[s9,dh,I9 aR t ts,aAs];by_cases h:t=s
  .simp[h]
  .simp[h]
theorem ER(bH:Nat->Option (List ah))(t:Nat):∀bs:List Nat,ta bH bs t=if t∈bs then bH t else none
 |[]=>by simp[ta]
 |s::bs=>by
  simp[ta,dh,ER bH t bs,aAs];by_cases h:t=s
  .simp[h]
  .simp[h]
theorem PB{aR:Nat->ah}{bs:List Nat}:∀{ts:List Nat},keeps aR bs ts=true->∀t,t∈ts->∀u off,aR t=.dT u off->u∈bs
 |[],_,t,aE=>axY
 |s::ts,h,t,aE=>by
  simp[keeps,aAc]at h;intro u off hu;rcases aAs.1 aE with rfl|aE
  .simp_all[pG]
  .exact PB h.2 t aE u off hu
theorem bT.forget{n:Nat}{ts bs:List Nat}(p:bT n0 gl nt w G ρ lam a st)(aq:keeps st.aR bs ts=true):
  ∃ρ' lam',bT n0 gl nt w G ρ' lam' a (DW n ts bs st)/\(ρ'=ρ\/ρ'=ρ.take n):=by
 let lam':=λt=>if t∈bs then lam t else none
 have h1:bS gl w G ρ lam' a.tmps ⟨s9 st.aR ts,ta st.bH bs,st.s⟩:=by
  refine⟨?_,?_,?_,p.rel.ob,p.rel.eU,p.rel.lt⟩
  .intro t;simp only[I9];split
   .rename_i aE;have:=p.rel.aR t;rcases this.cases with h|⟨u,off,b,e,h1,sh⟩
    .exact .lV h
    .rw[e];refine⟨b,?_,sh⟩;simp only[lam'];rw[aAD (PB aq t aE u off e)];omega
   .exact .cp (.undef _)
  .intro t cs au;simp only[ER]at au;split at au
   .rename_i aE;obtain⟨b,h1,sh⟩:=p.rel.bH t cs au;grind
   simp_all
  .intro t au;simp only[ER]at au;simp only[lam'];split at au
   .rename_i aE;rw[aAD aE];exact p.rel.nb t au
   simp_all
 unfold DW;cases az:(ts.all (λt=>fA n depth (st.aR t))&&bs.all (okB n st.bH)&&(st.s.take n).all (b9.fA n))with
 |false=>exact⟨ρ,lam',⟨h1,p.eO,p.sz⟩,.inl rfl⟩
 |true=>
  simp only[aAc]at az;refine⟨ρ.take n,lam',⟨⟨?_,?_,h1.nb,PA p.rel.ob az.2,p.rel.eU,p.rel.lt⟩,p.eO,p.sz⟩,.inr rfl⟩
  .intro t;have:=h1.aR t;simp[I9]at this⊢;split
   .rename_i aE;rw[aAD aE]at this;have bd:=aAx.1 az.1.1 t aE;rcases this.cases with h|⟨u,off,b,e,h1,sh⟩
    .exact .lV (I8 h bd)
    .rw[e];exact⟨b,h1,sh⟩
   .exact .cp (.undef _)
  .intro t cs au;obtain⟨b,sh,av⟩:=h1.bH t cs au;refine⟨b,sh,Pz av ?_⟩;simp only[ER]at au;split at au
   .rename_i aE;have bd:=aAx.1 az.1.2 t aE;grind[okB]
   simp_all
end
def aBd:=@Array.getD_eq_getD_getElem?
theorem azs(h:p:=by simpa [Act.put]using p.sz):p:=h
section
variable {P:Program}{gl:Nat->List D}{n0 nt:Nat}{a:Act}{w w' w0:World}{G G' G0:bI}{ρ ρ' ρ0:List Nat}{lam lam':Nat->Option Nat}{st aT:ag}{K:ag->Prop}{o:Oper}{Q:Exit->Act->World->Prop}
def j9(n0:Nat)(gl:Nat->List D)(nt:Nat)(w:World)(G:bI)(ρ:List Nat)(K:aB->ag->Prop):Exit->Act->World->Prop
 |.normal,a',w'=>cJ n0 gl nt w G ρ (K .normal) a' w'
 |.exit i,a',w'=>cJ n0 gl nt w G ρ (K (.exit i)) a' w'
 |.ret,a',w'=>cJ n0 gl nt w G ρ (K .ret) a' w'
 |_,_,_=>False
structure iY(w0:World)(G0:bI)(ρ0:List Nat)(w:World)(G:bI)(ρ:List Nat):Prop where
 good:Good w0 G0 w G
 pre:∀i b:Nat,ρ0[i]?=some b->ρ[i]?=some b
theorem iY.after(f:iY w0 G0 ρ0 w G ρ){a':Act}{w':World}(h:cJ n0 gl nt w G ρ K a' w'):cJ n0 gl nt w0 G0 ρ0 K a' w':=by
 obtain⟨sh,G',ρ',lam',aT,h1,av,aW,bL,cW⟩:=h;exact⟨sh,G',ρ',lam',aT,h1,av,f.good.trans aW,λi b h=>bL i b (f.pre i b h),cW⟩
theorem iY.post(f:iY w0 G0 ρ0 w G ρ){K:aB->ag->Prop}{e:Exit}{a':Act}{w':World}(h:j9 n0 gl nt w G ρ K e a' w'):j9 n0 gl nt w0 G0 ρ0 K e a' w':=by
 cases e<;>first|exact f.after h|exact h.elim
theorem bT.l3(p:bT n0 gl nt w G ρ lam a st):iY w G ρ w G ρ:=⟨Good.refl p.rel.lt,λ_ _ h=>h⟩
theorem bT.after(p:bT n0 gl nt w G ρ lam a st)(h:K st):cJ n0 gl nt w G ρ K a w:=
 ⟨p.sz,G,ρ,lam,st,p.eO,p.rel,Good.refl p.rel.lt,λ_ _ h=>h,h⟩
theorem I'{ops:Array Oper}{g:Option (Nat×Bool)}(aC:pw ops o=some g)(ew:∀t,di w G ρ lam (.slot t) (a.tmps.getD t undef) (st.aR t)):
  (g=none/\Region.wanted o (yielded ops a.tmps)=true)\/
  ∃s want,g=some (s,want)/\((∃b,st.aR s=.d (.bool b)/\Region.wanted o (yielded ops a.tmps)=(cond want b (!b)))\/
   (st.aR s=.tuple []/\Region.wanted o (yielded ops a.tmps)=false)\/((∀b,st.aR s≠.d (.bool b))/\st.aR s≠.tuple [])):=by
 unfold pw at aC;split at aC
 .grind[Region.wanted]
 .rename_i j want ay;split at aC
  .rename_i s hs;simp at aC;refine .inr ⟨s,want,aC.symm,?_⟩;have hw:Region.wanted o (yielded ops a.tmps)=(yielded ops a.tmps j==some want):=by grind[Region.wanted]
   have wa:yielded ops a.tmps j=match a.tmps[s]? with|some (.bool b)=>some b|_=>none:=by
    grind[yielded]
   have ax:=ew s;rw[hw,wa];by_cases h1:∃b,st.aR s=.d (.bool b)
   .obtain⟨b,au⟩:=h1;refine .inl ⟨b,au,?_⟩;rw[au]at ax;have hv:=ax.bool;rw[aBd]at hv;grind[undef]
   .by_cases sh:st.aR s=.tuple []
    .refine .inr (.inl ⟨sh,?_⟩);rw[sh]at ax;have ax:=ax;rw[aBd]at ax;cases ak:a.tmps[s]? with
     |none=>rfl
     |some v=>
      rw[ak]at ax;simp at ax;cases ax;rfl
    simp_all
  simp_all
theorem BR{d:Option Nat}(p:bT n0 gl nt w G ρ lam a st)(a8:o.dst=d)(bu:kr nt o=true)(ao:K (st.dI d (.tuple []))):cJ n0 gl nt w G ρ K (a.put o.dst undef) w:=
 IQ p.rel p.eO p.sz (λt aE=>ay4) (Good.refl p.rel.lt) (λ_ _ h=>h) a8
  (λ_ _=>.cp (.tuple [] [] .nil)) ao
def qP(P:Program)(an:eo)(m:fl)(o:Oper)(ins:I):Prop:=jh P an m o=some ins\/ins=.bad o.dst
theorem PC{an:eo}{m:fl}{i:I}(p:bT n0 gl nt w G ρ lam a st)(h:qP P an m o i)(aY:kr nt o=true)
  (hs:step (bx P gl) gl i st K):o.wp P a w (cJ n0 gl nt w G ρ K) Q:=by
 rcases h with h|rfl
 .grind[I0]
 .exact hs.elim
theorem Ja{ops:Array Oper}{i:Nat}{an:eo}{m:fl}{ins:I}{g:Option (Nat×Bool)}(p:bT n0 gl nt w G ρ lam a st)(bd:ops[i]?=some o)(h:qP P an m o ins)
  (aC:pw ops o=some g) (aY:kr nt o=true) (BS:ins.dst=o.dst) (hs:steps (bx P gl) gl [⟨g,ins⟩] st K):wpOp P ops Q i (cJ n0 gl nt w G ρ K) a w:=by
 unfold wpOp;rw[bd];simp;rcases I' aC p.rel.aR with⟨rfl,hw⟩|⟨s,want,rfl,⟨b,au,hw⟩|⟨au,hw⟩|⟨h1,sh⟩⟩
 .rw[hw];exact .inl (PC p h aY hs)
 .rw[hw];simp only[steps,au]at hs;cases az:cond want b (!b)with
  |true=>grind[PC]
  |false=>grind[BR]
 .rw[hw];simp[steps,au]at hs;grind[BR]
 .exfalso;simp[steps]at hs;first
   |exact hs
   |(split at hs
     .rename_i b au;exact h1 b au
     .rename_i au;exact sh au
     .exact hs)
theorem xl{an:eo}{all:Array Oper}{m:fl}{g:cf}(h:wO P an nt all m o=some g):qP P an m o g.i/\pw all o=some g.g/\kr nt o=true/\g.i.dst=o.dst:=by
 unfold wO at h;split at h
 .rename_i i g0 h1 sh;split at h
  .rename_i aY;simp at aY;simp at h;subst h;refine⟨?_,sh,aY.1,aY.2⟩;split at h1
   .rename_i iQ hi;simp at h1;subst h1;exact .inl hi
   .simp at h1;exact .inr h1.symm
  simp_all
 simp_all
theorem vf{an:eo}{all:Array Oper}{m:fl}{l:List Oper}{is:List cf}(h:hH P an nt all m (o::l)=some is):
  (∃g f',wO P an nt all m o=some g/\hH P an nt all (uY P m o) l=some f'/\is=g::f')\/
  (∃cO eH bC d i e f',l=cO::eH::bC/\A9 P an o cO eH=some (d,i,e)/\d<nt/\e<nt/\hH P an nt all m bC=some f'/\is=⟨none,i⟩::⟨none,.lR (some e)⟩::⟨none,.lR none⟩::f'):=by
 have plain:∀{l:List Oper},(match wO P an nt all m o,hH P an nt all (uY P m o) l with|some g,some is=>some (g::is)|_,_=>none)=some is->
   ∃g f',wO P an nt all m o=some g/\hH P an nt all (uY P m o) l=some f'/\is=g::f':=by
  grind
 cases l with
 |nil=>
  rw[hH]at h;all_goals grind
 |cons cO l=>cases l with
  |nil=>
  rw[hH]at h;all_goals grind
  |cons eH l=>
   rw[hH]at h;split at h
   .rename_i d i e ak;split at h
    .rename_i au;simp at au;grind
    simp_all
   grind
theorem ag9{R:Type}(A:mB R)(gl:Nat->List D)(g:cf)(l:List cf)(st:ag)(K:ag->R):steps A gl (g::l) st K=steps A gl [g] st λst=>steps A gl l st K:=by
 obtain⟨g,i⟩:=g;cases g with
 |none=>rfl
 |some q=>simp_all[steps]
theorem BU{ops:Array Oper}{i:Nat}{v:Value}{w1:World}{M:Act->World->Prop}(bd:ops[i]?=some o)(aC:o.guard=none)(ax:(execOp a.eval o).run P w=.ok (.value v) w1)(h:M (a.put o.dst v) w1):wpOp P ops Q i M a w:=by
 unfold wpOp;rw[bd];have:Region.wanted o (yielded ops a.tmps)=true:=by grind[Region.wanted]
 grind[gb]
theorem Jb{ops:Array Oper}{i:Nat}{w1:World}{M:Act->World->Prop}(bd:ops[i]?=some o)(aC:o.guard=none)(ax:(execOp a.eval o).run P w=.ok .skip w1)(h:M (a.put o.dst undef) w1):wpOp P ops Q i M a w:=by
 simp_all[wpOp,Region.wanted,u1]
theorem qQ{d t:Nat}{v:Value}(aY:d<a.tmps.size):(a.put (some d) v).tmps.getD t undef=if t=d then v else a.tmps.getD t undef:=by
 simp[Act.put];by_cases h:t=d;all_goals simp_all[aAt]
theorem Jc{d e s:Nat}{v1 v2:Value}{cr:ah}{fb:World}{G':bI}(ax:bS gl fb G' ρ lam a.tmps (st.set s .undef))(hv:di fb G' ρ lam (.slot d) v1 cr)(aY:d<a.tmps.size)(he:e<a.tmps.size):
  bS gl fb G' ρ lam ((a.tmps.setIfInBounds d v1).setIfInBounds e v2) ((((st.set s .undef).set d cr).dI (some e) .undef).dI none .undef):=by
 have h1:=ax.set aY hv;exact h1.set axY (.cp (.undef _))
theorem eval_put{x:Operand}{d:Nat}{v:Value}(h:∀q,x=.tmp q->q≠d):(a.put (some d) v).eval x=a.eval x:=by
 cases x with
 |tmp q=>
  have:=h q rfl;show(a.put (some d) v).tmps.getD q undef=a.tmps.getD q undef;simp_all[Act.put,aAt]
 |_=>rfl
theorem ES{cY cO eH:Oper}{d s z i e sz b1:Nat}{y:O}(ak:I2 P cY cO eH d s z i e sz b1 y){xo:Operand}(h:eH.op.operands.toList=[.tmp e,xo]):(∀q,xo=.tmp q->q≠e/\q≠d)/\d≠i/\e≠d/\e≠i:=by
 obtain⟨t,u,b2,bt,sc,x,t3,q1,bF,cE,ei,gF,jD,oP,pI,qN,hu,tk,cg,kB,EL,wa,gu,iG,lZ,gG,ic,vd,n4⟩:=ak.ex;grind[Op.operands,bO]
theorem Jd{ops:Array Oper}{an:eo}:∀(fuel:Nat) {l:List Oper} {k:Nat} {m:fl} {is:List cf} {w:World} {G:bI} {ρ:List Nat} {lam:Nat->Option Nat} {a:Act} {st:ag},l.length<=fuel->
  (∀j,ops[k+j]?=l[j]?)->hH P an nt ops m l=some is->bT n0 gl nt w G ρ lam a st->iY w0 G0 ρ0 w G ρ->steps (bx P gl) gl is st K->
  (∀a' w',cJ n0 gl nt w0 G0 ρ0 K a' w'->Q .normal a' w')->wpOps P ops Q (List.range' k l.length) a w
 |_,[],k,m,is,w,G,ρ,lam,a,st,_,_,az,p,f,hs,aV=>by
  simp[hH,aAe]at az;subst az;exact aV _ _ (f.after (p.after hs))
 |0,o::l,k,m,is,w,G,ρ,lam,a,st,zo,_,_,_,_,_,_=>axY
 |fuel+1,o::l,k,m,is,w,G,ρ,lam,a,st,zo,aI,az,p,f,hs,aV=>by
  have bd:ops[k]?=some o:=by have:=aI 0;simp_all
  rcases vf az with⟨g,f',h1,av,rfl⟩|⟨cO,eH,bC,d,ins,e,f',rfl,ak,aY,he,av,rfl⟩
  .obtain⟨c1,c2,c3,c4⟩:=xl h1;rw[ag9]at hs;refine wpOp_mono ?_ (Ja p bd c1 c2 c3 c4 hs);rintro a' w' ⟨aF,G',ρ',lam',aT,aj,aZ,bP,cK,dO⟩;refine Jd fuel (l:=l) (k:=k+1) (m:=uY P m o) (by simp at zo;omega) (λj=> ?_) av ⟨aZ,aj,aF⟩ ⟨f.good.trans bP,λi b h=>cK i b (f.pre i b h)⟩ dO aV;have:=aI (j+1);rw[show k+1+j=k+(j+1)by omega,this];rfl
  .obtain⟨s,z,i,y,sz,b1,rfl,iW⟩:=vb ak;have kZ:ops[k+1]?=some cO:=axY;have qR:ops[k+2]?=some eH:=axY;have gq:=hs;obtain⟨v1,v2,w1,b,pos,us,xo,cr,G',n,c1,E,fz,r0,bN,b5,dq,n7,vg,gf,ij,qS,pJ,BV⟩:=EM p iW gq;obtain⟨n4,gG,ic,vd⟩:=ES iW r0;obtain⟨t,u,b2,bt,sc,x,t3,q1,bF,cE,ei,gF,jD,oP,pI,qN,_⟩:=iW.ex;have lA:=aAI aY p.sz;have se:=aAI he p.sz;rw[aAu,aAu,aAu,aBl,aBl,aBl,wpOps_cons];refine BU bd cE bN ?_;rw[bF,wpOps_cons];refine BU kZ jD (b5 _ _ ?_ ?_) ?_
   .rw[qQ lA,aAD rfl]
   .rw[qQ lA,aAG (aAt gG)]
   rw[gF,wpOps_cons];refine Jb qR qN (dq _ _ ?_ ?_ n7) ?_
   .rw[qQ ayP,aAD rfl]
   .rw[eval_put (λq aS=>(n4 q aS).1),eval_put (λq aS=>(n4 q aS).2)]
   rw[pI];have dz:=Jc (v2:=v2) ij pJ lA se;refine Jd fuel (l:=bC) (k:=k+1+1+1) (m:=m) axZ (λj=> ?_) av ⟨dz,p.eO.good qS,azs⟩ ⟨f.good.trans qS,f.pre⟩ BV aV;have:=aI (j+3);grind
theorem ag'{K:aB->ag->Prop}{b:eG}{y:Code}(wa:∀{w:World} {G:bI} {ρ:List Nat} {lam:Nat->Option Nat} {a:Act} {st:ag},bT n0 gl nt w G ρ lam a st->iY w0 G0 ρ0 w G ρ->
   run (bx P gl) gl b st K->y.wp P (j9 n0 gl nt w0 G0 ρ0 K) a w) {e:Exit} {a':Act} {w':World}
  (h:j9 n0 gl nt w0 G0 ρ0 (λx st=>match x with|.normal=>run (bx P gl) gl b st K|x=>K x st) e a' w'):Exit.then (y.wp P (j9 n0 gl nt w0 G0 ρ0 K)) (j9 n0 gl nt w0 G0 ρ0 K) e a' w':=by
 cases e with
 |normal=>
  obtain⟨aF,G',ρ',lam',aT,aj,aZ,bP,cK,dO⟩:=h;exact wa ⟨aZ,aj,aF⟩ ⟨bP,cK⟩ dO
 |exit i=>exact h
 |ret=>exact h
 |_=>exact h.elim
def aBe:=@List.mem_cons_of_mem
def aCl:=@List.mem_nil_iff
def aBo:=@or_false
def zp(P:Program)(an:eo)(nt:Nat)(ops:Array Oper)(i:Nat)(g:cf):Prop:=∃m o,ops[i]?=some o/\qP P an m o g.i/\pw ops o=some g.g/\kr nt o=true/\g.i.dst=o.dst
theorem PD{an:eo}{ops:Array Oper}:∀{l:List Oper} {m:fl} {is:List cf} {k:Nat},(∀j,ops[k+j]?=l[j]?)->hH P an nt ops m l=some is->(∀g∈is,g.i.dst≠none\/∃x t off y n,g.i=.ls x t off y n)->(∀g∈is,∀d s z i x sz b1,g.i≠.kO d s z i x sz b1)->
  ∀i g,is[i]?=some g->zp P an nt ops (k+i) g
 |[],m,is,k,_,az,_,_,i,g,aC=>by
  grind[hH]
 |o::l,m,is,k,aI,az,ay,ak,i,g,aC=>by
  rcases vf az with⟨n8,f',h1,av,rfl⟩|⟨cO,eH,bC,d,ins,e,f',rfl,avn,aY,he,av,rfl⟩
  .cases i with
   |zero=>
    simp at aC;subst aC;obtain⟨c1,c2,c3,c4⟩:=xl h1;exact⟨m,o,by have:=aI 0;simpa using this,c1,c2,c3,c4⟩
   |succ i=>
    have:=PD (k:=k+1) (λj=>by have:=aI (j+1);rw[show k+1+j=k+(j+1)by omega,this];rfl) av (λg aC=>ay g (aBe _ aC)) (λg aC=>ak g (aBe _ aC)) i g (by simpa using aC);rwa [show k+1+i=k+(i+1)by omega]at this
  grind[vb,List.mem_cons_self]
theorem bT.drawn(p:bT n0 gl nt w G ρ lam a st)(n:Nat):bT n0 gl nt {w with drawn:=n} G ρ lam a st/\Good w G {w with drawn:=n} G:=by
 have aq:da w G {w with drawn:=n} G:=⟨λ_ _ _ h=>h,λ_ _ h=>h,λ_ _ h=>h⟩;have hs:∀L,e4 L L w G {w with drawn:=n} G:=λ_ _ _ h=>⟨rfl,h⟩;have aC:Good w G {w with drawn:=n} G:=⟨aAd _,λ_ _ _=>⟨rfl,rfl⟩,λb n au dA=>absurd (p.rel.lt _ _ _ dA) (aBv.2 au),λ_ _ _ h=>h,aq,rfl,rfl⟩;refine⟨⟨⟨λt=>(p.rel.aR t).bR aq (λ_ _ h=>h) (λ_ _ h=>h) (hs _),?_,p.rel.nb,p.rel.ob.bR aq (λ_=>hs _) (λ_ _=>hs _),p.rel.eU.bR aq,p.rel.lt⟩,p.eO.good aC,p.sz⟩,aC⟩;intro t cs au;obtain⟨b,h1,sh⟩:=p.rel.bH t cs au;exact⟨b,h1,dM.bR aq (λ_ _ h=>h) (hs _) (λ_=>hs _) sh⟩
theorem zq{ops:Array Oper}{an:eo}{i:Nat}{g:cf}{n:Nat}{listed:Array Bool}(h:zp P an nt ops i g)(p:bT n0 gl nt w G ρ lam a st)(f:iY w0 G0 ρ0 w G ρ)(hs:steps (bx P gl) gl [g] st K)
  (aq:∀{w:World} {G:bI} {ρ:List Nat} {lam:Nat->Option Nat} {a:Act} {st:ag},bT n0 gl nt w G ρ lam a st->iY w0 G0 ρ0 w G ρ->K st->wpAny P .any ops Q n listed a w):
  wpOp P ops Q i (wpAny P .any ops Q n listed) a w:=by
 obtain⟨m,o,bd,c1,c2,c3,c4⟩:=h;refine wpOp_mono ?_ (Ja p bd c1 c2 c3 c4 hs);rintro a' w' ⟨aF,G',ρ',lam',aT,aj,aZ,bP,cK,dO⟩;exact aq ⟨aZ,aj,aF⟩ ⟨f.good.trans bP,λi b h=>cK i b (f.pre i b h)⟩ dO
theorem aha{ops:Array Oper}{an:eo}{id:Nat}{g0 g1 g2 g3:cf}(hm:P.follows .mixedOrders=true)(ax:Bb ops=true)
  (wb:zp P an nt ops 0 g0) (h1:zp P an nt ops 1 g1) (sh:zp P an nt ops 2 g2) (av:zp P an nt ops 3 g3) (p:bT n0 gl nt w G ρ lam a st) (f:iY w0 G0 ρ0 w G ρ)
  (both:steps (bx P gl) gl [g0] st λst=>(steps (bx P gl) gl [g1] st λst=>steps (bx P gl) gl [g2] st λst=>steps (bx P gl) gl [g3] st K)/\(steps (bx P gl) gl [g2] st λst=>steps (bx P gl) gl [g1] st λst=>steps (bx P gl) gl [g3] st K))
  (aV:∀a' w',cJ n0 gl nt w0 G0 ρ0 K a' w'->Q .normal a' w'):(Code.region id ops true).wp P Q a w:=by
 unfold Bb at ax;simp at ax;obtain⟨⟨⟨⟨⟨⟨r0,bN⟩,b5⟩,dq⟩,n7⟩,vg⟩,gf⟩:=ax;refine wp_region_any hm ?_;obtain⟨p',aC⟩:=p.drawn (w.drawn+1);have tJ:iY w0 G0 ρ0 {w with drawn:=w.drawn+1} G ρ:=⟨f.good.trans aC,f.pre⟩;rw[r0];show wpAny P .any ops Q 4 #[false,false,false,false] a _;have fin:∀{w:World} {G:bI} {ρ:List Nat} {lam:Nat->Option Nat} {a:Act} {st:ag},bT n0 gl nt w G ρ lam a st->iY w0 G0 ρ0 w G ρ->steps (bx P gl) gl [g3] st K->wpAny P .any ops Q 1 #[true,true,true,false] a w:=by
  intro w G ρ lam a st p f s;refine⟨axY,?_⟩;rw[vg];intro i hi;simp at hi;subst hi;refine zq av p f s λp f s=> ?_;exact⟨gf,aV _ _ (f.after (p.after s))⟩
 refine⟨axY,?_⟩;rw[bN];intro i hi;simp at hi;subst hi;refine zq wb p' tJ both λp f s=> ?_;show wpAny P .any ops Q 3 #[true,false,false,false] _ _;refine⟨axY,?_⟩;rw[b5];intro i hi;simp at hi;rcases hi with rfl|rfl
 .refine zq h1 p f s.1 λp f s=> ?_;grind[wpAny,zq]
 .refine zq sh p f s.2 λp f s=> ?_;grind[wpAny,zq]
def l4(d e:Nat)(z bJ a6:Bool):List cf:=[⟨none,.kN d [.d (.bool z)]⟩,⟨none,.ls (.t d) d 0 (.c (.d (.bool bJ))) 1⟩,⟨none,.ls (.t d) d 0 (.c (.d (.bool a6))) 1⟩,⟨none,.hX e (.t d) d 0 1 false⟩]
def zr(d e:Nat)(z bJ a6:Bool):eG:=.seq (.any [⟨none,.mA e false 0 (.c (.own 1 []))⟩] [[]]) (.cond (.t e) (.ops (l4 d e z bJ a6)) (.ops (l4 d e z a6 bJ)))
theorem Je{ops:Array Oper}{is:List cf}{c:eG}(h:HJ P ops is=some c):∃d e z bJ a6,e≠d/\P.follows .mixedOrders=true/\Bb ops=true/\is=l4 d e z bJ a6/\c=zr d e z bJ a6:=by
 unfold HJ at h;split at h
 .rename_i d z d1 d2 bJ d3 d4 a6 e d5 d6;split at h
  .rename_i az;simp at az;obtain⟨⟨⟨⟨⟨⟨⟨⟨c1,c2⟩,rfl⟩,rfl⟩,rfl⟩,rfl⟩,rfl⟩,rfl⟩,c3⟩:=az;simp at h;exact⟨_,e,z,bJ,a6,c3,c1,c2,rfl,h.symm⟩
  simp_all
 simp_all
def l5(st:ag)(d:Nat)(b:Bool):ag:=(st.dX d [.d (.bool b)]).set d (.dT d 0)
def ET(st:ag)(d e:Nat)(b:Bool):ag:=(l5 st d b).set e (.d (.bool b))
theorem ahb{d:Nat}{z:Bool}{K:ag->Prop}(h:step (bx P gl) gl (.kN d [.d (.bool z)]) st K):K (l5 st d z)/\∀K':ag->Prop,K' (l5 st d z)->step (bx P gl) gl (.kN d [.d (.bool z)]) st K':=by
 simp[step]at h⊢;split at h
 .exact⟨h,λK' h=>by first|exact h|(exact h)⟩
 .exact h.elim
theorem ahc{α:Type}{f:Nat->α}{k:Nat}{x y:α}:cC (cC f k x) k y=cC f k y:=by
 grind[cC]
theorem PE{d:Nat}{z b:Bool}{K:ag->Prop}:step (bx P gl) gl (.ls (.t d) d 0 (.c (.d (.bool b))) 1) (l5 st d z) K↔K (l5 st d b):=by
 have aj:(l5 st d z).aR d=.dT d 0:=by simp[l5,ag.set,cC]
 have aF:(l5 st d z).bH d=some [.d (.bool z)]:=by simp[l5,ag.set,ag.dX,cC]
 have aZ:(kill (l5 st d z) (.c (.d (.bool b)))).dX d (putCells [.d (.bool z)] 0 (cellsOf (.d (.bool b))))=l5 st d b:=by
  show({aR:=_,bH:=cC (cC st.bH d (some [.d (.bool z)])) d (some [.d (.bool b)]),s:=st.s}:ag)=_;rw[ahc];rfl
 simp[step,aL,aj,aF,aZ];show(_=true/\_)↔_;simp_all[cellsOf,kn,s6,ea]
theorem PF{d e:Nat}{z:Bool}{K:ag->Prop}:step (bx P gl) gl (.hX e (.t d) d 0 1 false) (l5 st d z) K↔K (ET st d e z):=by
 have aj:(l5 st d z).aR d=.dT d 0:=by simp[l5,ag.set,cC]
 have aF:(l5 st d z).bH d=some [.d (.bool z)]:=by simp[l5,ag.set,ag.dX,cC]
 simp[step,aL,aj,aF];constructor
 .exact λh=>h.2
 .exact λh=>⟨axX,h⟩
theorem ahd{d e:Nat}{b t:Bool}:ET (st.set e (.d (.bool t))) d e b=ET st d e b:=by
 show({aR:=cC (cC (cC st.aR e (.d (.bool t))) d (.dT d 0)) e (.d (.bool b)),bH:=_,s:=st.s}:ag)={aR:=cC (cC st.aR d (.dT d 0)) e (.d (.bool b)),bH:=_,s:=st.s};congr 1;grind[cC]
theorem PG{d e:Nat}{z bJ a6:Bool}{K:ag->Prop}(h:steps (bx P gl) gl (l4 d e z bJ a6) st K):K (ET st d e a6):=by
 unfold l4 at h;simp[steps]at h;have h1:=(ahb h).1;grind[PE,PF]
theorem ahe{d e:Nat}{z bJ a6 t1 t2:Bool}{K:ag->Prop}(h1:steps (bx P gl) gl (l4 d e z bJ a6) (st.set e (.d (.bool t1))) K)(sh:steps (bx P gl) gl (l4 d e z a6 bJ) (st.set e (.d (.bool t2))) K):
  steps (bx P gl) gl [⟨none,.kN d [.d (.bool z)]⟩] st λst=>(steps (bx P gl) gl [⟨none,.ls (.t d) d 0 (.c (.d (.bool bJ))) 1⟩] st λst=>steps (bx P gl) gl [⟨none,.ls (.t d) d 0 (.c (.d (.bool a6))) 1⟩] st λst=>steps (bx P gl) gl [⟨none,.hX e (.t d) d 0 1 false⟩] st K)/\(steps (bx P gl) gl [⟨none,.ls (.t d) d 0 (.c (.d (.bool a6))) 1⟩] st λst=>steps (bx P gl) gl [⟨none,.ls (.t d) d 0 (.c (.d (.bool bJ))) 1⟩] st λst=>steps (bx P gl) gl [⟨none,.hX e (.t d) d 0 1 false⟩] st K):=by
 have k1:=PG h1;have k2:=PG sh;rw[ahd]at k1 k2;have au:st.bH d=none:=by
  unfold l4 at h1;simp[steps,step]at h1;cases ak:st.bH d with
  |none=>rfl
  |some y=>rw[show(st.set e (.d (.bool t1))).bH d=some y from ak]at h1;exact h1.elim
 have jE:∀K:ag->Prop,K (l5 st d z)->step (bx P gl) gl (.kN d [.d (.bool z)]) st K:=by
  intro K ao;simp[step,au];exact ao
 simp_all[steps,PE,PF]
theorem PH{ops:Array Oper}{an:eo}{m:fl}{id:Nat}{is:List cf}{d e:Nat}{z bJ a6 t1 t2:Bool}(az:hH P an nt ops m ops.toList=some is)(hm:P.follows .mixedOrders=true)(ax:Bb ops=true)(hi:is=l4 d e z bJ a6)(p:bT n0 gl nt w G ρ lam a st)(f:iY w0 G0 ρ0 w G ρ)
  (h1:steps (bx P gl) gl (l4 d e z bJ a6) (st.set e (.d (.bool t1))) K) (sh:steps (bx P gl) gl (l4 d e z a6 bJ) (st.set e (.d (.bool t2))) K)
  (aV:∀a' w',cJ n0 gl nt w0 G0 ρ0 K a' w'->Q .normal a' w'):(Code.region id ops true).wp P Q a w:=by
 subst hi;have bd:=PD (k:=0) (λj=>axX) az (by
  intro g aC;simp[l4,aAs,aCl,aBo]at aC;grind[I.dst]) (by
  simp_all[l4])
 exact aha hm ax (by have:=bd 0 _ rfl;omega) (by have:=bd 1 _ rfl;omega) (by have:=bd 2 _ rfl;omega) (by have:=bd 3 _ rfl;omega) p f (ahe h1 sh) aV
theorem ahf{d e:Nat}{z bJ a6:Bool}{K:aB->ag->Prop}(h:run (bx P gl) gl (zr d e z bJ a6) st K):
  steps (bx P gl) gl (l4 d e z bJ a6) (st.set e (.d (.bool true))) (K .normal)/\steps (bx P gl) gl (l4 d e z a6 bJ) (st.set e (.d (.bool false))) (K .normal):=by
 unfold zr at h;simp[run,qv]at h;have ax:st.room (po [⟨none,.mA e false 0 (.c (.own 1 []))⟩])=st:=by
  show({st with s:=st.s++[]}:ag)=st;simp
 obtain⟨⟨_,h1⟩,_,sh⟩:=h;simp_all[ag.set,cC,qu,aL]
theorem ahg{Y:iR Prop}{yi:Nat}{d e:Nat}{z bJ a6:Bool}{pp:Option aB}{K:aB->ag->Option aB->Prop}(h:hk (bx P gl) gl Y yi (zr d e z bJ a6) st pp K):
  steps (bx P gl) gl (l4 d e z bJ a6) (st.set e (.d (.bool true))) (λst=>K .normal st pp)/\steps (bx P gl) gl (l4 d e z a6 bJ) (st.set e (.d (.bool false))) (λst=>K .normal st pp):=by
 unfold zr at h;simp[hk,qv]at h;have ax:st.room (po [⟨none,.mA e false 0 (.c (.own 1 []))⟩])=st:=by
  show({st with s:=st.s++[]}:ag)=st;simp
 rw[ax]at h;obtain⟨⟨_,h1⟩,_,sh⟩:=h;have aj:∀x,(st.set e x).aR e=x:=λx=>by simp[ag.set,cC]
 simp[qu,aL,aj,aCV,aAg,aAw]at h1 sh;exact⟨sh,h1⟩
def aBL:=@Go.wp_mono
theorem azt(h:p:=by rw[List.range_eq_range',aCU]):p:=h
def xm(P:Program)(gl:Nat->List D):Prop:=
 ∀{n0 nt:Nat} {an:eo} {m:fl} {id:Nat} {ops:Array Oper} {is:List cf} {dy:List (List Nat)} {w:World} {G:bI} {ρ:List Nat} {lam:Nat->Option Nat} {a:Act} {st:ag} {K:aB->ag->Prop},
  hH P an nt ops m ops.toList=some is->N0 P ops is=some dy->bT n0 gl nt w G ρ lam a st->qv (bx P gl) gl is dy st (K .normal)->(Code.region id ops true).wp P (j9 n0 gl nt w G ρ K) a w
def Jf(P:Program)(gl:Nat->List D):Prop:=
 ∀{n0 nt:Nat} {an:eo} {m:fl} {f:Operand} {ps:Array Tmp} {x y:Code} {l bC:List (List Nat×List Nat)} {vc:eG} {w:World} {G:bI} {ρ:List Nat} {lam:Nat->Option Nat} {a:Act} {st:ag} {K:aB->ag->Prop},
  dm P an nt m (.rangeFunc f ps x y) l=some (vc,bC)->bT n0 gl nt w G ρ lam a st->n0<=w.heap.size->run (bx P gl) gl vc st K->(Code.rangeFunc f ps x y).wp P (j9 n0 gl nt w G ρ K) a w
theorem ahh{K:aB->ag->Prop}{ts bs:List Nat}{I:Nat->ag->Prop}{n:Nat}{cI:ag}{k0:List Nat}(hlen:cI.s.length=k0.length)(f1:∀i b:Nat,ρ0[i]?=some b->k0[i]?=some b){e:Exit}{a':Act}{w' w1:World}{gV:bI}
  (lv:Good w0 G0 w1 gV)
  (h:j9 n0 gl nt w1 gV k0 (λx st=>match x with|.normal=>aH.forget (bx P gl) cI.s.length ts bs st (λaT=>∃m,m<n/\I m aT)|x=>K x st) e a' w'):
  Exit.then (λa' w'=>∃m,m<n/\∃G ρ lam st,bT n0 gl nt w' G ρ lam a' st/\iY w0 G0 ρ0 w' G ρ/\I m st) (j9 n0 gl nt w0 G0 ρ0 K) e a' w':=by
 have f:iY w0 G0 ρ0 w1 gV k0:=⟨lv,f1⟩;cases e with
 |normal=>
  obtain⟨aF,G',ρ',lam',aT,aj,aZ,bP,cK,aq,m,hm,dr⟩:=h;have p:bT n0 gl nt w' G' ρ' lam' a' aT:=⟨aZ,aj,aF⟩;obtain⟨fE,oQ,eb,cN⟩:=p.forget (n:=cI.s.length) aq;refine⟨m,hm,G',fE,oQ,_,eb,⟨lv.trans bP,?_⟩,dr⟩;grind
 |exit i=>exact f.after h
 |ret=>exact f.after h
 |_=>exact h.elim
theorem ahi(vh:xm P gl)(PI:Jf P gl){an:eo}{m:fl}:∀(c:Code) {l bC:List (List Nat×List Nat)} {vc:eG} {w0 w:World} {G0 G:bI} {ρ0 ρ:List Nat} {lam:Nat->Option Nat} {a:Act} {st:ag} {K:aB->ag->Prop},
  dm P an nt m c l=some (vc,bC)->bT n0 gl nt w G ρ lam a st->iY w0 G0 ρ0 w G ρ->n0<=w0.heap.size->run (bx P gl) gl vc st K->c.wp P (j9 n0 gl nt w0 G0 ρ0 K) a w:=by
 intro c;induction c with
 |skip=>
  intro l bC vc w0 w G0 G ρ0 ρ lam a st K az p f ay ax;obtain⟨rfl,rfl⟩:=az;exact wp_skip (f.after (p.after ax))
 |region id ops BW=>
  intro l bC vc w0 w G0 G ρ0 ρ lam a st K az p f ay ax;simp[dm]at az;split at az
  .rename_i is mM;cases BW with
   |true=>
    simp at az;split at az
    .rename_i dy fW;obtain⟨rfl,rfl⟩:=az;exact aBL (vh mM fW p ax) λe a w h=>f.post h
    .split at az
     .rename_i c Jg;obtain⟨rfl,rfl⟩:=az;obtain⟨d,e,z,bJ,a6,_,c1,c2,c3,rfl⟩:=Je Jg;obtain⟨k1,k2⟩:=ahf ax;exact PH mM c1 c2 c3 p f k1 k2 λa' w' h=>h
     .obtain⟨rfl,rfl⟩:=az;exact ax.elim
   |false=>
    obtain⟨rfl,rfl⟩:=az;refine wp_region ?_;have:List.range ops.size=List.range' 0 ops.toList.length:=azt;rw[this];exact Jd _ (aAd _) (λj=>axX) mM p f ax λa' w' h=>h
  simp_all
 |seq x y tM tN=>
  intro l bC vc w0 w G0 G ρ0 ρ lam a st K az p f ay ax;simp[dm]at az;split at az
  .rename_i vx l1 ak;split at az
   .rename_i BX l2 wa;obtain⟨rfl,rfl⟩:=az;refine wp_seq (aBL (tM ak p f ay ax) λe a w h=> ?_);exact ag' (λp f ax=>tN wa p f ay ax) h
   simp_all
  simp_all
 |cond c x y tM tN=>
  intro l bC vc w0 w G0 G ρ0 ρ lam a st K az p f ay ax;simp[dm]at az;split at az
  .rename_i vx co l1 bd ak;split at az
   .rename_i BX l2 wa;obtain⟨rfl,rfl⟩:=az;simp[run]at ax;obtain⟨L,ew⟩:=dQ bd p.rel;split at ax
    .grind[wp_cond_true,wp_cond_false,di.bool]
    .exact ax.elim
   simp_all
  simp_all
 |block i b ih=>
  intro l bC vc w0 w G0 G ρ0 ρ lam a st K az p f ay ax;simp[dm]at az;split at az
  .rename_i j1 l1 au;simp at az;obtain⟨rfl,rfl⟩:=az;refine wp_block (aBL (ih au p f ay ax) λe a w h=> ?_);cases e with
   |normal=>exact h
   |ret=>exact h
   |exit j=>
    obtain⟨aF,G',ρ',lam',aT,aj,aZ,bP,cK,dO⟩:=h;simp only at dO;simp[Exit.inBlock];by_cases aK:j=i
    .subst aK;simp[Nat.beq_refl,cond]at dO;simp[if_true];exact⟨aF,G',ρ',lam',aT,aj,aZ,bP,cK,dO⟩
    .have:Nat.beq j i=false:=by simp_all[aBH]
     simp[this,cond]at dO;simp[aK,aAC];exact⟨aF,G',ρ',lam',aT,aj,aZ,bP,cK,dO⟩
   |_=>exact h.elim
  simp_all
 |loop b ih=>
  intro l bC vc w0 w G0 G ρ0 ρ lam a st K az p f ay ax;cases l with
  |nil=>grind[dm]
  |cons q l=>
   obtain⟨ts,bs⟩:=q;simp[dm]at az;split at az
   .rename_i j1 l1 au;simp[aAe,aAJ]at az;obtain⟨rfl,rfl⟩:=az;simp[run]at ax;obtain⟨aq,I,n,wb,tO⟩:=ax;obtain⟨fE,oQ,eb,cN⟩:=p.forget (n:=st.s.length) aq;have EH:fE=ρ:=by
     rcases cN with rfl|rfl
     .rfl
     .rw[aBa];rw[p.rel.ob.1];simp
    subst EH;refine wp_loop_ghost (λn a w=>∃G ρ lam st,bT n0 gl nt w G ρ lam a st/\iY w0 G0 ρ0 w G ρ/\I n st) n ⟨G,fE,oQ,_,eb,f,wb⟩ ?_;rintro gG bw w1 ⟨gV,k0,Jh,cI,AN,f1,dr⟩;refine aBL (ih au AN AN.l3 (aAZ ay f1.good.size) (tO gG cI dr)) λe a' w' h=> ?_;exact ahh AN.rel.ob.1.symm f1.pre f1.good h
   simp_all
 |exit i=>
  intro l bC vc w0 w G0 G ρ0 ρ lam a st K az p f ay ax;simp[dm,aAe,aAJ]at az;obtain⟨rfl,rfl⟩:=az;exact wp_exit (f.after (p.after ax))
 |ret=>
  intro l bC vc w0 w G0 G ρ0 ρ lam a st K az p f ay ax;simp[dm,aAe,aAJ]at az;obtain⟨rfl,rfl⟩:=az;exact wp_ret (f.after (p.after ax))
 |rangeFunc g ps x y _ _=>
  intro l bC vc w0 w G0 G ρ0 ρ lam a st K az p f ay ax;exact aBL (PI az p (aAZ ay f.good.size) ax) λe a w h=>f.post h
 |scope _=>grind[dm]
 |label _=>grind[dm]
 |goto _=>grind[dm]
 |refuse _=>
  intro l bC vc w0 w G0 G ρ0 ρ lam a st K az p f ay ax;simp only[dm,aAe,aAJ]at az;obtain⟨rfl,rfl⟩:=az;exact ax.elim
end
def aCa:=@Go.World.putObj_heap_other
def aCm:=@Go.World.cell?_of_block
def aCn:=@and_true
def aCZ:=@List.nodup_cons
def aAR:=@List.mem_map
section
variable {P:Program}{gl:Nat->List D}{n0 nt:Nat}{a:Act}{w w' w0:World}{G G' G0:bI}{ρ ρ' ρ0:List Nat}{lam lam':Nat->Option Nat}{st aT:ag}{K:ag->Prop}
def BZ:Obj->Bool
 |.cells .. |.map .. =>false
 |_=>true
theorem sf{b:Nat}{o o':Obj}(h:w.heap[b]?=some o)(bd:BZ o=true):da w G (w.putObj b o') G:=by
 refine⟨?_,?_,?_⟩;rotate_left
 .intro cj cO az;obtain⟨h1,av,sh⟩:=az;have cB:cj≠b:=by
   intro e;subst e;rw[h]at sh;simp at sh;subst sh;cases o<;>first|(exact Bool.noConfusion bd)|(exact Bool.noConfusion av)
  exact⟨h1,av,(aCa cB).trans sh⟩
 .intro cj n az;obtain⟨c,E,fz,sh,av⟩:=az;have cB:cj≠b:=by
   grind[BZ]
  exact⟨c,E,fz,(aCa cB).trans sh,av⟩
 intro cj off v az;refine⟨?_,az.2⟩;have cB:cj≠b:=by
  intro e;have:=az.1;grind[World.cell?,BZ]
 rw[aCm (aCa cB)];exact az.1
theorem zt{b:Nat}{o':Obj}(dA:G b=none)(L:Loc):e4 L L w G (w.putObj b o') G:=by
 intro cj n au;grind[World.putObj_heap_other]
theorem bS.putObj{b:Nat}{o o':Obj}{tmps:Array Value}(p:bS gl w G ρ lam tmps st)(h:w.heap[b]?=some o)(bd:BZ o=true)(dA:G b=none):bS gl (w.putObj b o') G ρ lam tmps st where
 aR t:=(p.aR t).bR (sf h bd) (λ_ _ h=>h) (λ_ _ h=>h) (zt dA _)
 bH t cs au:=by
  obtain⟨cj,h1,sh⟩:=p.bH t cs au;exact⟨cj,h1,dM.bR (sf h bd) (λ_ _ h=>h) (zt dA _) (λ_=>zt dA _) sh⟩
 nb:=p.nb
 ob:=p.ob.bR (sf h bd) (λ_=>zt dA _) (λ_ _=>zt dA _)
 eU:=p.eU.bR (sf h bd)
 lt cj L n au:=by rw[World.putObj_size];exact p.lt cj L n au
theorem Good.putObj{b:Nat}{o o':Obj}(g:Good w0 G0 w G)(h:w.heap[b]?=some o)(bd:BZ o=true)(au:w0.heap.size<=b):Good w0 G0 (w.putObj b o') G where
 size:=by grind[World.putObj_size]
 iB cj eZ dA:=by
  grind[World.putObj_heap_other,iB]
 new:=g.new
 old:=g.old
 keep:=g.keep.trans (sf h bd)
 os:=g.os
 out:=g.out
theorem Marks.tail{D:Nat}{hz:List Nat}(h:Marks n0 w G ((D::hz).map mark)):D∉hz/\n0<=D/\w.heap[D]?=some (.deferred (some []))/\G D=none/\Marks n0 w G (hz.map mark):=by
 obtain⟨xn,h1,sh,av⟩:=h;have fm:xn=D::hz:=by
  have inj:∀(l bC:List Nat),l.map mark=bC.map mark->l=bC:=by
   intro l;induction l with
   |nil=>simp
   |cons x l ih=>
    intro bC h;cases bC with
    |nil=>grind
    |cons y bC=>
     simp[aAP,List.cons.injEq,mark,Deferred.mk.injEq,Target.collected.injEq,aCn]at h;grind
  grind
 subst fm;obtain⟨aj,aF,aZ⟩:=av D axX;exact⟨(aCZ.1 sh).1,aj,aF,aZ,hz,rfl,(aCZ.1 sh).2,λx ak=>av x axZ⟩
theorem PJ{fn:Func}{tmps:Array Value}{R:Ending->World->Prop}:∀(hz:List Nat) {w:World},bS gl w G ρ lam tmps st->Good w0 G0 w G->Marks w0.heap.size w G (hz.map mark)->
  (∀w,bS gl w G ρ lam tmps st->Good w0 G0 w G->∃v,(results fn tmps).run P w=.ok v w/\R (.returned v) w)->LeavesInM Fence.wide 0 P fn tmps R (hz.map mark) .returning w
 |[],w,p,g,_,h=>h w p g
 |D::hz,w,p,g,hm,h=>by
  obtain⟨h1,sh,av,aW,bL⟩:=hm.tail;refine⟨axX,.inl ⟨D,w.putObj D (.deferred none),rfl,run_takeDeferred av,?_⟩⟩;refine PJ hz (p.putObj av rfl aW) (g.putObj av rfl sh) ?_ h;obtain⟨xn,aj,aF,aZ⟩:=bL;refine⟨xn,aj,aF,λE fm=> ?_⟩;obtain⟨f1,f2,f3⟩:=aZ E fm;have cB:E≠D:=by
   intro e;have Ji:mark E∈hz.map mark:=axZ;obtain⟨x,ak,he⟩:=aAR.1 Ji;simp_all[mark]
  grind[World.putObj_heap_other]
end
def aCF:=@Option.pure_def
def aCb:=@Go.wpIn_wide
def aAa:=@Nat.zero_le
def aCG:=@Nat.sub_zero
section
variable {P:Program}{gl:Nat->List D}{n0 nt:Nat}{a:Act}{w w' w0:World}{G G' G0:bI}{ρ ρ' ρ0:List Nat}{lam lam':Nat->Option Nat}{st aT:ag}{K:ag->Prop}{o:Oper}{Q:Exit->Act->World->Prop}
theorem Jj:∀{args:List ah} {vs:List Value} {n:Nat} {t:Nat},ck w G ρ vs args->(ay:n<=t)->df w G ρ ((vs[t-n]?).getD undef) (rI args n t)
 |[],vs,n,t,h,_=>by
  cases h;exact .tuple [] [] .nil
 |x::args,vs,n,t,h,ay=>by
  cases h with
  |cons v _ vs _ h1 sh=>
   simp[rI,dh];by_cases aE:t=n
   .simp_all
   .rw[aAG aE];have:=Jj (n:=n+1) (t:=t) sh axW;rw[show t-n=(t-(n+1))+1 by omega,aBY];exact this
theorem PK{t b off:Nat}{v:Value}(h:(Instr.loadAt t (.pointer (some ⟨b,off,none⟩))).run P w=.ok v w):(loadVar t ⟨b,off,none⟩).run P w=.ok v w:=by
 grind[Instr.loadAt,Instr.sureAddr]
def tP(tmps:Array Value):ResultVar->Sem Value
 |.tmp t=>pure (tmps.getD t undef)
 |.cell c t=>do loadVar t (<-asAddr (tmps.getD c undef))
theorem EU(fn:Func)(tmps:Array Value)(w:World):
  (results fn tmps).run P w=((fn.results.toList.mapM (tP tmps)).run P w).andThen λvs w'=>.ok (match vs with|[v]=>v|vs=>.tuple ⟨vs⟩) w':=by
 have:results fn tmps=(do let vs <-fn.results.mapM (tP tmps);pure (if h:vs.size=1 then vs[0]else .tuple vs)):=rfl;rw[this,Array.mapM_eq_mapM_toList];simp;cases (fn.results.toList.mapM (tP tmps)).run P w with
 |halt h w'=>rfl
 |ok vs w'=>
  simp;cases vs with
  |nil=>simp
  |cons v vs=>grind
theorem PL{an:eo}{vj:ResultVar}{r:oB}{x:ah}(p:bT n0 gl nt w G ρ lam a st)(az:yQ P an vj=some r)(ax:wM st r=some x):
  ∃v,(tP a.tmps vj).run P w=.ok v w/\di w G ρ lam .res v x:=by
 cases vj with
 |tmp t=>
  simp[yQ,aAe]at az;subst az;simp[wM,aAe]at ax;subst ax;exact⟨_,by grind[tP,Sem.run_pure],(p.rel.aR t).cT⟩
 |cell c t=>
  simp only[yQ,aA8,aAq]at az;obtain⟨n,ay,ai,dB,az⟩:=az;split at az
  .rename_i h1;have h1:ai=false->n=1:=axZ;simp at az;have ew:=p.rel.aR c;split at az
   .subst az;simp only[wM]at ax;split at ax
    .rename_i i off he;rw[he]at ew;have hA:=ew;generalize hv:a.tmps.getD c undef=v at hA;cases hA with
     |ptr _ _ b au=>
      have eA:=p.rel.ob.at au;split at ax
      .rename_i cs gU;rw[gU]at eA;cases hle:Nat.ble (off+n) cs.length with
       |false=>simp_all
       |true=>
        rw[hle]at ax;simp at ax;subst ax;obtain⟨v,dv,dz⟩:=Bm eA (aAr hle) ay dB h1;grind[tP,asAddr,PK,di.cp]
      simp_all
    simp_all
   .subst az;simp[wM]at ax;split at ax
    .rename_i ek he;rw[he]at ew;obtain⟨b,au,hv⟩:=ew;split at ax
     .rename_i cs gU;obtain⟨cj,eZ,eA⟩:=p.rel.bH ek cs gU;rw[eZ]at au;simp at au;subst au;cases hle:Nat.ble n cs.length with
      |false=>simp_all
      |true=>
       rw[hle]at ax;simp at ax;subst ax;obtain⟨v,dv,dz⟩:=Bm (off:=0) eA axY ay dB h1;grind[tP,asAddr,PK,di.cp]
     simp_all
    simp_all
  simp_all
theorem ahj{L:Loc}{v:Value}{x:ah}{n:Nat}(h:di w G ρ lam L v x)(ay:ea n (cT x)=true):df w G ρ v (cT x):=by
 rcases h.cases with h|⟨t,off,b,rfl,_,_⟩
 all_goals grind[cT,ea,dn.cT]
theorem PN{an:eo}(p:bT n0 gl nt w G ρ lam a st):∀{l:List ResultVar} {rs:List oB} {xs:List ah},l.mapM (yQ P an)=some rs->uU st rs=some xs->xs.all (ea (depth-1))=true->
  ∃vs,(l.mapM (tP a.tmps)).run P w=.ok vs w/\ck w G ρ vs xs
 |[],rs,xs,az,ax,_=>by
  have:=rY az;cases this;simp[uU,aAe]at ax;subst ax;exact⟨[],axX,.nil⟩
 |vj::l,rs,xs,az,ax,ay=>by
  simp[aCk,aA8,aAq,aCF,aAe]at az;obtain⟨r,h1,rs,sh,rfl⟩:=az;simp[uU]at ax;split at ax
  .rename_i x xs aj aF;simp at ax;subst ax;simp only[aB5,aAc]at ay;obtain⟨v,hv,ew⟩:=PL p h1 aj;obtain⟨vs,jk,bE⟩:=PN p sh aF ay.2;refine⟨v::vs,?_,.cons _ _ _ _ (ahj ew ay.1) bE⟩;simp_all
  simp_all
theorem ahk{an:eo}{fn:Func}{rs:List oB}{r:ah}(p:bT n0 gl nt w G ρ lam a st)(az:yR P an fn.results.toList=some rs)(ax:qw st rs=some r)(ay:ea depth r=true):
  ∃v fZ,(results fn a.tmps).run P w=.ok v w/\dn w fZ ρ .res v r/\ht w fZ ρ st.s/\(∀b L n,fZ b=some (L,n)->b<w.heap.size)/\Good w G w fZ:=by
 unfold yR at az;split at az
 .rename_i t bd aI;simp at az;subst az;simp[qw,wM,aAe]at ax;subst ax;have hs:e4 (.slot t) .res w G w (c8 (ff (.slot t) .res) G):=by
   grind[oH,tg]
  have hid:∀L,L≠.slot t->e4 L L w G w (c8 (ff (.slot t) .res) G):=λL bE=>rR (qx bE);have ew:=(p.rel.aR t).bR (lam':=lam) (j2 _) (λ_ _ h=>h) (λ_ _ h=>h) hs;refine⟨_,c8 (ff (.slot t) .res) G,?_,ew.HO ay,p.rel.ob.bR (j2 _) (λi=>hid _ axX) (λi j=>hid _ axX),rS p.rel.lt,qy p.rel.lt axX axX⟩;grind[EU,tP,Sem.run_pure,Result.andThen_ok]
 .simp_all
 .rename_i bd;by_cases h1:∃r0,rs=[r0]
  .obtain⟨r0,rfl⟩:=h1;have aI:∃vj,fn.results.toList=[vj]/\yQ P an vj=some r0:=by
    have:=rY az;generalize fn.results.toList=l at this;cases this with
    |cons h1 sh=>cases sh;simp_all
   obtain⟨vj,aI,ahl⟩:=aI;obtain⟨v,hv,ew⟩:=PL p ahl ax;refine⟨v,G,?_,ew.HO ay,p.rel.ob,p.rel.lt,Good.refl p.rel.lt⟩;simp_all[EU]
  .replace ax:(uU st rs).map .tuple=some r:=by
    simp_all[qw]
   simp at ax;obtain⟨xs,ak,rfl⟩:=ax;obtain⟨vs,jk,bE⟩:=PN p az ak (by grind[ea,depth]);refine⟨.tuple ⟨vs⟩,G,?_,.cp (.tuple _ _ bE),p.rel.ob,p.rel.lt,Good.refl p.rel.lt⟩;rw[EU,jk];have hlen:vs.length=rs.length:=by
    rw[bE.length];clear az jk bE ay bd h1;induction rs generalizing xs with
    |nil=>grind[uU]
    |cons r rs ih=>
     grind[uU]
   cases vs with
   |nil=>rfl
   |cons v vs=>cases vs with
    |nil=>
     cases rs with
     |nil=>simp_all
     |cons r rs=>simp_all
    |cons _ _=>rfl
theorem ahm{an:eo}{f:Nat}{fn:Func}{c:Code}{vc:eG}{rs:List oB}{args:List ah}{s s':aU}{r:ah}(bh:P.funcs[f]?=some fn)(tm:(fn.name== "runtime.NumGoroutine")=false)(au:fn.body=some c)
  (kC:yR P an fn.results.toList=some rs)
  (ahn:∀(n0:Nat) (w:World) (G:bI) (ρ:List Nat) (lam:Nat->Option Nat) (a:Act) (st:ag) {K:aB->ag->Prop},bT n0 gl fn.ntmps w G ρ lam a st->n0<=w.heap.size->run (bx P gl) gl vc st K->c.wp P (j9 n0 gl fn.ntmps w G ρ K) a w)
  (ax:lS (bx P gl) gl ⟨vc,rs⟩ args s λfN xp=>fN=r/\xp=s'):bG P gl f args s r s':=by
 refine⟨⟨fn,bh,axY,tm⟩,?_⟩;intro w G ρ vs ct aC aA wX;refine callsIn_wide.1 (callsIn_of_wp_marks (n:=0) bh au trivial (aCb.2 ?_));have p:bT w.heap.size gl fn.ntmps w G ρ (λ_=>none) {tmps:=(⟨vs⟩:Array Value)++Array.replicate (fn.ntmps-(⟨vs⟩:Array Value).size) undef,defers:=[]} {aR:=rI args 0,bH:=λ_=>none,s}:=by
  refine⟨⟨?_,λt cs h=>axZ,λ_ _=>rfl,ct,aC,aA⟩,.nil,?_⟩
  .intro t;have h1:=Jj (n:=0) (t:=t) wX (aAa _);have sh:(((⟨vs⟩:Array Value)++Array.replicate (fn.ntmps-(⟨vs⟩:Array Value).size) undef).getD t undef)=(vs[t-0]?).getD undef:=by
    rw[aBd,Array.getElem?_append,aCG];grind
   grind[di.cp]
  grind
 refine aBL (ahn w.heap.size w G ρ (λ_=>none) _ _ p (aAd _) ax) ?_;have fin:∀(a':Act) (w':World),cJ w.heap.size gl fn.ntmps w G ρ (λst=>match qw st rs with
   |some fN=>ea depth fN=true/\(fN=r/\gc s.length fN st.s=s')
   |none=>False) a' w'->LeavesInM Fence.wide 0 P fn a'.tmps (λe w'=>∃v G' ρ',e=.returned v/\dn w' G' ρ' .res v r/\ht w' G' ρ' s'/\
    (∀b L n,G' b=some (L,n)->b<w'.heap.size)/\Good w G w' G'/\(∀i b:Nat,ρ[i]?=some b->ρ'[i]?=some b)) a'.defers .returning w':=by
  rintro a' w' ⟨aF,G',ρ',lam',aT,aj,aZ,bP,cK,dO⟩;split at dO
  .rename_i fN gS;obtain⟨ay,rfl,hs⟩:=dO;have aho:=aj;obtain⟨hz,Jk,_,_⟩:=aho;rw[Jk]at aj⊢;refine PJ hz aZ bP aj λw' aZ bP=> ?_;have p':bT 0 gl fn.ntmps w' G' ρ' lam' {a' with defers:=[]} aT:=⟨aZ,.nil,aF⟩;obtain⟨v,fZ,h1,sh,av,aW,bL⟩:=ahk p' kC gS ay;refine⟨v,h1,v,fZ,?_⟩;unfold gc at hs;cases hcnd:(fA s.length depth fN&&(aT.s.take s.length).all (b9.fA s.length))with
   |false=>
    rw[hcnd]at hs;simp at hs;grind[Good.trans]
   |true=>
    rw[hcnd]at hs;simp at hs;simp only[aAc]at hcnd;subst hs;refine⟨ρ'.take s.length,rfl,I8 sh hcnd.1,PA av hcnd.2,aW,bP.trans bL,?_⟩
    .intro i b hi;refine tL ?_ (cK i b hi);rw[<-ct.1];grind
  simp_all
 intro e a' w' h;cases e with
 |normal=>exact fin a' w' h
 |ret=>exact fin a' w' h
 |exit i=>obtain⟨_,_,_,_,_,_,_,_,_,h⟩:=h;exact h.elim
 |_=>exact h.elim
theorem ahp(vh:xm P gl)(PI:Jf P gl){an:eo}{f:Nat}{fn:Func}{cM:aX}{args:List ah}{s s':aU}{r:ah}(bh:P.funcs[f]?=some fn)(tm:(fn.name== "runtime.NumGoroutine")=false)(az:u0 P an fn=some cM)
  (ax:lS (bx P gl) gl cM args s λfN xp=>fN=r/\xp=s'):bG P gl f args s r s':=by
 unfold u0 at az;simp[aA8,aAq]at az;grind[ahm,ahi,bT.l3]
end
def aAB:=@List.mem_append_left
def aAN:=@List.mem_append_right
def aBz:=@and_self
def aBM:=@Option.toList_some
def aBN:=@List.append_nil
def aAO:=@List.not_mem_nil
theorem ax'(h:p:=by have h1:=h.1;have sh:=h.2.1):p:=h
theorem ayr(h:p:=by have h1:=h.1):p:=h
theorem ayG(h:p:=by simp[step,ai.aL (x:=x) (λt aE=>aE),ik,aBz,aAg,aAw,↓reduceIte,aA5, *]):p:=h
theorem ayH(h:p:=by simp[I.oC]):p:=h
theorem ayT(h:p:=by have h1:=h.1;simp[step,ai.aL (x:=x) (λt aE=>aAB _ aE),ai.aL (x:=y) (λt aE=>aAN _ aE),ik,aBz,aAg,aAw,↓reduceIte,aA5, *]):p:=h
theorem azM(h:p:=by have h1:=h.1;simp[step,ai.aL (x:=x) (λt aE=>aE),ik,aBz,aAg,aAw,↓reduceIte,aA5, *]):p:=h
theorem azN(h:p:=by have h1:=h.1;simp only[step,ai.aL (x:=x) (λt aE=>aAB _ aE),ai.aL (x:=y) (λt aE=>aAN _ aE),ik,aBz,aAg,aAw,↓reduceIte,aA5, *]):p:=h
section
variable {P:Program}{gl:Nat->List D}
structure pK(i:I)(st aP:ag):Prop where
 aR:∀t,t∈i.rd->aP.aR t=st.aR t
 bH:∀t,t∈i.oC->aP.bH t=st.bH t
 s:i.rs=true->aP.s=st.s
def mix(i:I)(aP aT:ag):ag:=
 ⟨λt=>if t∈i.wr then aT.aR t else aP.aR t,λt=>if t∈i.gO then aT.bH t else aP.bH t,if i.ws=true then aT.s else aP.s⟩
def Jl(P:Program)(gl:Nat->List D)(i:I)(st:ag)(K:ag->Prop):Prop:=
 ∃aT,K aT/\(∀t,t∉i.wr->aT.aR t=st.aR t)/\(∀t,t∉i.gO->aT.bH t=st.bH t)/\(i.ws=false->aT.s=st.s)/\
  ∀aP (bK:ag->Prop),pK i st aP->bK (mix i aP aT)->step (bx P gl) gl i aP bK
def gH(P:Program)(gl:Nat->List D)(i:I):Prop:=∀st (K:ag->Prop),step (bx P gl) gl i st K->Jl P gl i st K
theorem pK.aL{i:I}{st aP:ag}(h:pK i st aP){x:O}(ak:∀t,t∈x.slots->t∈i.rd):aH.aL gl aP x=aH.aL gl st x:=by
 cases x with
 |t n=>exact h.aR n (ak n (by simp[O.slots]))
 |c v=>rfl
 |g n=>rfl
theorem tQ{i:I}{aP aT qT:ag}(h1:∀t,(if t∈i.wr then aT.aR t else aP.aR t)=qT.aR t)(sh:∀t,(if t∈i.gO then aT.bH t else aP.bH t)=qT.bH t)(av:(if i.ws=true then aT.s else aP.s)=qT.s):
  mix i aP aT=qT:=by
 obtain⟨a,b,c⟩:=qT;simp[mix,ag.mk.injEq];simp_all
theorem Jl.set{i:I}{d:Nat}{v:ah}{st:ag}{K:ag->Prop}(hw:i.wr=[d])(au:i.gO=[])(hs:i.ws=false)(ao:K (st.set d v))
  (h:∀aP (bK:ag->Prop),pK i st aP->bK (aP.set d v)->step (bx P gl) gl i aP bK):Jl P gl i st K:=by
 refine⟨_,ao,λt aE=> ?_,λt _=>rfl,λ_=>rfl,λaP bK ai aq=>h aP bK ai ?_⟩
 .simp_all[ag.set,dh]
 .have:mix i aP (st.set d v)=aP.set d v:=by
   refine tQ (λt=> ?_) (λt=>by grind[ag.set]) (by grind[ag.set]);simp_all[ag.set,dh]
  simp_all
theorem ik(b:Bool)(p:Prop):(bx P gl).guard b p=(b=true/\p):=rfl
theorem avo:(bx P gl).fail=False:=rfl
theorem ahq{d:Nat}{x:O}:gH P gl (.cV d x):=by
 intro st K h;all_goals first
  |exact h.elim
  |exact h.2.elim
  |exact .set rfl rfl rfl h λaP bK ai aq=>ayG
  |exact .set rfl rfl rfl h.2 λaP bK ai aq=>ayr
  |exact .set rfl rfl rfl h.2.2 λaP bK ai aq=>ax'
theorem ahr{d:Nat}{c x y:O}:gH P gl (.dU d c x y):=by
 intro st K h;simp[step]at h;repeat' split at h
 all_goals first
  |exact h.elim
  |exact h.2.elim
  |exact .set rfl rfl rfl h λaP bK ai aq=>by simp[step,ai.aL (x:=c) (λt aE=>aAB _ (aAB _ aE)),ai.aL (x:=x) (λt aE=>aAB _ (aAN _ aE)),ai.aL (x:=y) (λt aE=>aAN _ aE),ik,aBz,aAg,aAw,↓reduceIte,aA5, *]
  |exact .set rfl rfl rfl h.2 λaP bK ai aq=>ayr
  |exact .set rfl rfl rfl h.2.2 λaP bK ai aq=>by have h1:=h.1;have sh:=h.2.1;simp
theorem ahs{d:Nat}{x:O}:gH P gl (.wF d x):=by
 intro st K h;simp[step]at h;repeat' split at h
 all_goals first
  |exact h.elim
  |exact h.2.elim
  |exact .set rfl rfl rfl h λaP bK ai aq=>ayG
  |exact .set rfl rfl rfl h.2 λaP bK ai aq=>by have h1:=h.1;simp
  |exact .set rfl rfl rfl h.2.2 λaP bK ai aq=>by have h1:=h.1;have sh:=h.2.1;simp
theorem aht{d:Nat}{op:BinOp}{x y:O}:gH P gl (.bi d op x y):=by
 intro st K h;simp[step]at h;repeat' split at h
 all_goals first
  |exact h.elim
  |exact h.2.elim
  |exact .set rfl rfl rfl h λaP bK ai aq=>axX
  |exact .set rfl rfl rfl h.2 λaP bK ai aq=>ayT
  |exact .set rfl rfl rfl h.2.2 λaP bK ai aq=>by have h1:=h.1;have sh:=h.2.1;simp[step,ai.aL (x:=x) (λt aE=>aAB _ aE),ai.aL (x:=y) (λt aE=>aAN _ aE),ik,aBz,aAg,aAw,↓reduceIte,aA5, *]
theorem ahu{d:Nat}{neg ai:Bool}{ks:List Nat}{x y:O}:gH P gl (.eq d neg ai ks x y):=by
 intro st K h;simp[step]at h;repeat' split at h
 all_goals first
  |exact h.elim
  |exact h.2.elim
  |exact .set rfl rfl rfl h λaP bK ai aq=>axX
  |exact .set rfl rfl rfl h.2 λaP bK ai aq=>ayT
  |exact .set rfl rfl rfl h.2.2 λaP bK ai aq=>ax'
theorem ahv{d:Nat}{op:UnOp}{x:O}:gH P gl (.un d op x):=by
 intro st K h;simp only[step]at h;repeat' split at h
 all_goals first
  |exact h.elim
  |exact h.2.elim
  |exact .set rfl rfl rfl h λaP bK ai aq=>by simp only[step,ai.aL (x:=x) (λt aE=>aE),ik,aBz,aAg,aAw,↓reduceIte,aA5, *]
  |exact .set rfl rfl rfl h.2 λaP bK ai aq=>ayr
  |exact .set rfl rfl rfl h.2.2 λaP bK ai aq=>ax'
theorem ahw{d:Nat}{k:IntKind}{x:O}:gH P gl (.ci d k x):=by
 intro st K h;simp[step]at h;repeat' split at h
 all_goals first
  |exact h.elim
  |exact h.2.elim
  |exact .set rfl rfl rfl h λaP bK ai aq=>ayG
  |exact .set rfl rfl rfl h.2 λaP bK ai aq=>ayr
  |exact .set rfl rfl rfl h.2.2 λaP bK ai aq=>ax'
theorem ahx{d:Nat}{x:O}:gH P gl (.h' d x):=by
 intro st K h;simp[step]at h;repeat' split at h
 all_goals first
  |exact h.elim
  |exact h.2.elim
  |exact .set rfl rfl rfl h λaP bK ai aq=>ayG
  |exact .set rfl rfl rfl h.2 λaP bK ai aq=>ayr
  |exact .set rfl rfl rfl h.2.2 λaP bK ai aq=>ax'
theorem ahy{d:Nat}{x:O}:gH P gl (.bs d x):=by
 intro st K h;simp[step]at h;repeat' split at h
 all_goals first
  |exact h.elim
  |exact h.2.elim
  |exact .set rfl rfl rfl h λaP bK ai aq=>ayG
  |exact .set rfl rfl rfl h.2 λaP bK ai aq=>ayr
  |exact .set rfl rfl rfl h.2.2 λaP bK ai aq=>ax'
theorem ahz{d:Nat}{x:O}{off:Nat}:gH P gl (.gK d x off):=by
 intro st K h;simp[step]at h;repeat' split at h
 all_goals first
  |exact h.elim
  |exact h.2.elim
  |exact .set rfl rfl rfl h λaP bK ai aq=>ayG
  |exact .set rfl rfl rfl h.2 λaP bK ai aq=>ayr
  |exact .set rfl rfl rfl h.2.2 λaP bK ai aq=>ax'
theorem ahA{d:Nat}{x:O}{off n:Nat}{ai:Bool}:gH P gl (.fd d x off n ai):=by
 intro st K h;all_goals first
  |exact h.elim
  |exact h.2.elim
  |exact .set rfl rfl rfl h λaP bK ai aq=>axX
  |exact .set rfl rfl rfl h.2 λaP bK ai aq=>azM
  |exact .set rfl rfl rfl h.2.2 λaP bK ai aq=>ax'
theorem ahB{d:Nat}{x y:O}{sz:Nat}:gH P gl (.lQ d x y sz):=by
 intro st K h;simp only[step]at h;repeat' split at h
 all_goals first
  |exact h.elim
  |exact h.2.elim
  |exact .set rfl rfl rfl h λaP bK ai aq=>axX
  |exact .set rfl rfl rfl h.2 λaP bK ai aq=>azN
  |exact .set rfl rfl rfl h.2.2 λaP bK ai aq=>ax'
theorem ahC{d:Nat}{x y:O}{len sz:Nat}:gH P gl (.aa d x y len sz):=by
 intro st K h;simp[step]at h;repeat' split at h
 all_goals first
  |exact h.elim
  |exact h.2.elim
  |exact .set rfl rfl rfl h λaP bK ai aq=>axX
  |exact .set rfl rfl rfl h.2 λaP bK ai aq=>ayT
  |exact .set rfl rfl rfl h.2.2 λaP bK ai aq=>ax'
theorem ahD{d:Nat}{x y:O}:gH P gl (.mz d x y):=by
 intro st K h;simp only[step]at h;repeat' split at h
 all_goals first
  |exact h.elim
  |exact h.2.elim
  |exact .set rfl rfl rfl h λaP bK ai aq=>axX
  |exact .set rfl rfl rfl h.2 λaP bK ai aq=>azN
  |exact .set rfl rfl rfl h.2.2 λaP bK ai aq=>ax'
theorem ahE{d:Nat}{str:Bool}{x:O}:gH P gl (.ni d str x):=by
 intro st K h;simp[step]at h;repeat' split at h
 all_goals first
  |exact h.elim
  |exact h.2.elim
  |exact .set rfl rfl rfl h λaP bK ai aq=>axX
  |exact .set rfl rfl rfl h.2 λaP bK ai aq=>azM
  |exact .set rfl rfl rfl h.2.2 λaP bK ai aq=>ax'
theorem ahF{d:Nat}{x:O}{j:Nat}:gH P gl (.ex d x j):=by
 intro st K h;simp only[step]at h;repeat' split at h
 all_goals first
  |exact h.elim
  |exact h.2.elim
  |exact .set rfl rfl rfl h λaP bK ai aq=>axX
  |exact .set rfl rfl rfl h.2 λaP bK ai aq=>by have h1:=h.1;simp only[step,ai.aL (x:=x) (λt aE=>aE),ik,aBz,aAg,aAw,↓reduceIte,aA5, *]
  |exact .set rfl rfl rfl h.2.2 λaP bK ai aq=>ax'
theorem ahG{d:Nat}{lt:Bool}{x y:O}:gH P gl (.qm d lt x y):=by
 intro st K h;simp[step]at h;repeat' split at h
 all_goals first
  |exact h.elim
  |exact h.2.elim
  |exact .set rfl rfl rfl h λaP bK ai aq=>axX
  |exact .set rfl rfl rfl h.2 λaP bK ai aq=>ayT
  |exact .set rfl rfl rfl h.2.2 λaP bK ai aq=>ax'
theorem ahH{d:Nat}{x y:O}{len sz:Nat}{ai:Bool}:gH P gl (.wH d x y len sz ai):=by
 intro st K h;simp[step]at h;repeat' split at h
 all_goals first
  |exact h.elim
  |exact h.2.elim
  |exact .set rfl rfl rfl h λaP bK ai aq=>axX
  |exact .set rfl rfl rfl h.2 λaP bK ai aq=>ayT
  |exact .set rfl rfl rfl h.2.2 λaP bK ai aq=>ax'
theorem ahI{d:Nat}{q:Nat}{x y:O}:gH P gl (.cr d q x y):=by
 intro st K h;simp[step]at h;repeat' split at h
 all_goals first
  |exact h.elim
  |exact h.2.elim
  |exact .set rfl rfl rfl h λaP bK ai aq=>by simp[step,ai.aL (x:=x) (λt aE=>aAB _ aE),ai.aL (x:=y) (λt aE=>aAN _ aE),ik,aBz,aAg,aAw,↓reduceIte,aA5, *]
  |exact .set rfl rfl rfl h.2 λaP bK ai aq=>ayr
  |exact .set rfl rfl rfl h.2.2 λaP bK ai aq=>ax'
theorem pK.bound{i:I}{st aP:ag}(h:pK i st aP){x:Option O}{n:Int}(ak:∀t,t∈yI x->t∈i.rd):aH.bound gl aP n x=aH.bound gl st n x:=by
 cases x with
 |none=>rfl
 |some x=>simp[aH.bound,h.aL (x:=x) ak]
theorem pK.elems{i:I}{st aP:ag}(h:pK i st aP){sz:Nat}:∀{xs:List O},(∀t,t∈qn xs->t∈i.rd)->aH.elems gl aP sz xs=aH.elems gl st sz xs
 |[],_=>rfl
 |x::xs,ak=>by
  simp[aH.elems,h.aL (x:=x) (λt aE=>ak t (by grind[qn])),h.elems (xs:=xs) (λt aE=>ak t (by grind[qn]))]
theorem pK.pj{i:I}{st aP:ag}(h:pK i st aP):∀{ps:List (Nat×Nat×O)} {cs:List ah},(∀t,t∈(ps.flatMap λq=>q.2.2.slots)->t∈i.rd)->aH.pj gl aP cs ps=aH.pj gl st cs ps
 |[],_,_=>rfl
 |(off,n,x)::ps,cs,ak=>by
  simp[aH.pj,h.aL (x:=x) (λt aE=>ak t axZ)];cases (Nat.beq (cellsOf (cT (snap (aH.aL gl st x)))).length n&&Nat.ble (off+n) cs.length&&(cellsOf (cT (snap (aH.aL gl st x)))).all (ea depth))with
  |true=>exact h.pj λt aE=>ak t axY
  |false=>rfl
theorem pK.map{i:I}{st aP:ag}(h:pK i st aP){β:Type}{f:ah->β}:∀{xs:List O},(∀t,t∈qn xs->t∈i.rd)->(xs.map λx=>f (aH.aL gl aP x))=xs.map λx=>f (aH.aL gl st x)
 |[],_=>rfl
 |x::xs,ak=>by
  simp[aAP,h.aL (x:=x) (λt aE=>ak t (by grind[qn])),h.map (xs:=xs) (λt aE=>ak t (by grind[qn]))]
theorem ahJ{d:Nat}{x:O}{lo hi:Option O}:gH P gl (.ss d x lo hi):=by
 intro st K h;simp[step]at h;repeat' split at h
 all_goals first
  |exact h.elim
  |exact .set rfl rfl rfl h.2 λaP bK ai aq=>by
    have h1:=h.1;have aj:=ai.aL (gl:=gl) (x:=x) (λt aE=>aAB _ (aAB _ aE));have aF:=λn=>ai.bound (gl:=gl) (x:=lo) (n:=n) (λt aE=>aAB _ (aAN _ aE));have aZ:=λn=>ai.bound (gl:=gl) (x:=hi) (n:=n) (λt aE=>aAN _ aE);simp_all[step,ik]
theorem ahK{d sz:Nat}{x:O}{lo hi mx:Option O}:gH P gl (.aN d sz x lo hi mx):=by
 intro st K h;simp[step]at h;repeat' split at h
 all_goals first
  |exact h.elim
  |exact .set rfl rfl rfl h.2 λaP bK ai aq=>by
    have h1:=h.1;have aj:=ai.aL (gl:=gl) (x:=x) (λt aE=>aAB _ (aAB _ (aAB _ aE)));have aF:=λn=>ai.bound (gl:=gl) (x:=lo) (n:=n) (λt aE=>aAB _ (aAB _ (aAN _ aE)));have aZ:=λn=>ai.bound (gl:=gl) (x:=hi) (n:=n) (λt aE=>aAB _ (aAN _ aE));have bP:=λn=>ai.bound (gl:=gl) (x:=mx) (n:=n) (λt aE=>aAN _ aE);simp_all[step,ik]
theorem ahL{d sz:Nat}{xs:List O}:gH P gl (.li d sz xs):=by
 intro st K h;simp[step]at h;split at h
 .exact .set rfl rfl rfl h λaP bK ai aq=>by simp[step,ai.elems (gl:=gl) (sz:=sz) (xs:=xs) (λt aE=>aE), *]
 .exact h.elim
theorem ahM{d:Nat}{z:List ah}{ps:List (Nat×Nat×O)}:gH P gl (.wE d z ps):=by
 intro st K h;simp[step]at h;split at h
 .exact .set rfl rfl rfl h λaP bK ai aq=>by simp[step,ai.pj (gl:=gl) (ps:=ps) (cs:=z) (λt aE=>aE), *]
 .exact h.elim
theorem ahN{d f:Nat}{xs ws:List O}:gH P gl (.wG d f xs ws):=by
 intro st K h;cases xs with
 |nil=>cases ws with
  |nil=>exact .set rfl rfl rfl h λaP bK ai aq=>aq
  |cons y ys=>
   exact .set rfl rfl rfl h.2 λaP bK ai aq=>by
    have h1:=h.1;simp only[step,ai.map (gl:=gl) (f:=λv=>cT (snap v)) (xs:=[]) (λt aE=>aAB _ aE),ai.map (gl:=gl) (f:=λv=>cT (snap v)) (xs:=y::ys) (λt aE=>aAN _ aE)];exact⟨h1,aq⟩
 |cons x xs=>
  exact .set rfl rfl rfl h.2 λaP bK ai aq=>by
   have h1:=h.1;simp only[step,ai.map (gl:=gl) (f:=λv=>cT (snap v)) (xs:=x::xs) (λt aE=>aAB _ aE),ai.map (gl:=gl) (f:=λv=>cT (snap v)) (xs:=ws) (λt aE=>aAN _ aE)];exact⟨h1,aq⟩
theorem ahO{d t off n:Nat}{ai:Bool}{x:O}:gH P gl (.hX d x t off n ai):=by
 intro st K h;simp[step]at h;split at h
 .exact .set rfl rfl rfl h.2 λaP bK vk aq=>by
   have h1:=h.1;have aj:=vk.aL (gl:=gl) (x:=x) (λt aE=>aE);have aF:=vk.bH t ayH;simp_all[step,ik]
 .exact h.elim
theorem ahP{d ho:Nat}{neg:Bool}{x:O}(qK:Nat.beq ho 0=false):gH P gl (.mA d neg ho x):=by
 intro st K h;match ho,qK with
 |0,qK=>simp_all
 |1,_|2,_|3,_|4,_=>
  simp[step]at h;repeat' split at h
  all_goals first
   |exact h.elim
   |exact .set rfl rfl rfl h λaP bK ai aq=>by simp[step,ai.aL (x:=x) (λt aE=>aE), *]
 |n+5,_=>exact h.elim
theorem ahQ{d:Option Nat}:gH P gl (.bad d):=by
 intro st K h;exact h.elim
theorem ahR{d:Option Nat}:gH P gl (.lR d):=by
 intro st K h;cases d with
 |none=>exact⟨_,h,λ_ _=>rfl,λ_ _=>rfl,λ_=>rfl,λaP bK ai aq=>by
   have:mix (.lR none) aP (st.dI none .undef)=aP.dI none .undef:=tQ (λt=>by simp[I.wr,I.hw,I.kl,I.dst,ag.dI]) (λt=>by simp[I.gO,ag.dI]) (by simp[I.ws,ag.dI]);exact aq⟩
 |some d=>exact .set rfl rfl rfl h λaP bK ai aq=>aq
theorem ahS{d s z i sz b1:Nat}{x:O}:gH P gl (.kO d s z i x sz b1):=by
 intro st K h;simp[step]at h;split at h
 .rename_i ej l dt ag4 k n kQ aj aF aZ bP;refine⟨_,h.2,λt aE=> ?_,λ_ _=>rfl,λ_=>rfl,λaP bK ai aq=> ?_⟩
  .simp[I.wr,I.hw,I.kl,I.dst,aBM,aBN,aBJ,aBn,aAs,aAO,aBo,not_or]at aE;simp[ag.set,dh,aE.1,aE.2,aAC]
  .have f1:=ai.aR s (by simp[I.rd]);have f2:=ai.aR z (by simp[I.rd]);have f3:=ai.aR i (by simp[I.rd]);have f4:=ai.aL (gl:=gl) (x:=x) (λt aE=>by grind[I.rd]);have:mix (.kO d s z i x sz b1) aP ((st.set s .undef).set d (.own sz (l++[kQ])))=(aP.set s .undef).set d (.own sz (l++[kQ])):=by
    refine tQ (λt=> ?_) (λt=>rfl) rfl;simp[I.wr,I.hw,I.kl,I.dst,aBM,aBN,aBJ,aBn,aAs,aAO,aBo,ag.set,dh];grind
   have h1:=h.1;simp_all[step,ik]
 .exact h.elim
theorem sg(st:ag)(x:O):(kill st x).bH=st.bH:=by
 rcases wQ st x with⟨h,_⟩|⟨s,_,h,_⟩<;>rw[h]<;>rfl
theorem vm(st:ag)(x:O):(kill st x).s=st.s:=by
 rcases wQ st x with⟨h,_⟩|⟨s,_,h,_⟩<;>rw[h]<;>rfl
theorem Jm{st:ag}{x:O}{t:Nat}(h:t∉x.slots):(kill st x).aR t=st.aR t:=by
 rcases wQ st x with⟨cG,_⟩|⟨s,rfl,cG,_⟩
 all_goals simp_all[O.slots,ag.set,dh]
theorem PO{st aP:ag}{x:O}{t:Nat}(h:t∈x.slots)(aE:aP.aR t=st.aR t):(kill aP x).aR t=(kill st x).aR t:=by
 cases x with
 |t s=>
  simp[O.slots,aAF]at h;subst h;simp[kill];rw[aE];cases st.aR t<;>simp[aE,ag.set,iC]
 |c v=>grind[O.slots]
 |g n=>grind[O.slots]
theorem PQ{st aP:ag}{x:O}{t:Nat}(aE:t∈x.slots->aP.aR t=st.aR t):(if t∈x.slots then(kill st x).aR t else aP.aR t)=(kill aP x).aR t:=by
 grind[PO,Jm]
theorem ahT{d s:Nat}:gH P gl (.hj d s):=by
 intro st K h;refine⟨_,h,λt aE=> ?_,λ_ _=>rfl,λ_=>rfl,λaP bK ai aq=> ?_⟩
 .simp_all[I.wr,I.hw,I.kl,I.dst,ag.set,dh]
 .have e:=ai.aR s (by simp[I.rd]);have:mix (.hj d s) aP ((st.set s .undef).set d (st.aR s))=(aP.set s .undef).set d (aP.aR s):=by
   refine tQ (λt=> ?_) (λt=>rfl) rfl;simp[I.wr,I.hw,I.kl,I.dst,aBM,aBJ,aBn,aAs,aAO,aBo,ag.set,dh,e];grind
  rw[this]at aq;exact aq
theorem ahU{d:Nat}{x:O}:gH P gl (.e2 d x):=by
 intro st K h;refine⟨_,h,λt aE=> ?_,λ_ _=>by simp[ag.set,sg],λ_=>by simp[ag.set,vm],λaP bK ai aq=> ?_⟩
 .simp_all[I.wr,I.hw,I.kl,I.dst,ag.set,dh,Jm]
 .have e:=ai.aL (gl:=gl) (x:=x) (λt aE=>aE);have:mix (.e2 d x) aP ((kill st x).set d (aL gl st x))=(kill aP x).set d (aL gl aP x):=by
   refine tQ (λt=> ?_) (λt=>by simp[ag.set,sg,I.gO]) (by simp[ag.set,vm,I.ws]);simp[I.wr,I.hw,I.kl,I.dst,aBM,aBJ,aBn,aAs,ag.set,dh,e];by_cases h1:t=d
   .grind
   .simp[h1,false_or,aAC];exact PQ (ai.aR t)
  rw[this]at aq;exact aq
theorem ahV{d:Nat}{z:List ah}:gH P gl (.kN d z):=by
 intro st K h;simp[step]at h;split at h
 .rename_i aj;refine⟨_,h,λt aE=> ?_,λt aE=> ?_,λ_=>rfl,λaP bK ai aq=> ?_⟩
  .simp_all[I.wr,I.hw,I.dst,ag.set,ag.dX,dh]
  .simp_all[I.gO,ag.set,ag.dX,dh]
  .have e:=ai.bH d ayH;have:mix (.kN d z) aP ((st.dX d z).set d (.dT d 0))=(aP.dX d z).set d (.dT d 0):=by
    refine tQ (λt=> ?_) (λt=> ?_) rfl;all_goals simp_all[I.wr,I.hw,I.kl,I.dst,ag.set,ag.dX,dh,I.gO]
   simp_all[step]
 .exact h.elim
theorem ahW{d n:Nat}{x:O}:gH P gl (.fV d x n):=by
 intro st K h;simp[step]at h;split at h
 .rename_i aj;refine⟨_,h.2,λt aE=> ?_,λt aE=> ?_,λ_=>rfl,λaP bK ai aq=> ?_⟩
  .simp_all[I.wr,I.hw,I.dst,ag.set,ag.dX,dh]
  .simp_all[I.gO,ag.set,ag.dX,dh]
  .have e:=ai.bH d ayH;have e':=ai.aL (gl:=gl) (x:=x) (λt aE=>aE);have:mix (.fV d x n) aP ((st.dX d (cellsOf (gP (aL gl st x)))).set d (.dT d 0))=(aP.dX d (cellsOf (gP (aL gl st x)))).set d (.dT d 0):=by
    refine tQ (λt=> ?_) (λt=> ?_) rfl;all_goals simp_all[I.wr,I.hw,I.kl,I.dst,ag.set,ag.dX,dh,I.gO]
   rw[this]at aq;have h1:=h.1;simp[step,e,e',aj];exact⟨h1,aq⟩
 .exact h.elim
theorem ahX{d t off:Nat}{x:O}:gH P gl (.lt d x t off):=by
 intro st K h;simp only[step]at h;split at h
 .rename_i ek dL cs aj aF;refine⟨_,h.2,λu hu=> ?_,λu hu=> ?_,λ_=>rfl,λaP bK ai aq=> ?_⟩
  .simp_all[I.wr,I.hw,I.dst,ag.set,ag.dX,dh]
  .simp_all[I.gO,ag.set,ag.dX,dh]
  .have e:=ai.bH t ayH;have e':=ai.aL (gl:=gl) (x:=x) (λt aE=>aE);have:mix (.lt d x t off) aP ((st.dX t (cs.set off .undef)).set d (cs.getD off .undef))=(aP.dX t (cs.set off .undef)).set d (cs.getD off .undef):=by
    refine tQ (λu=> ?_) (λu=> ?_) rfl;all_goals simp_all[I.wr,I.hw,I.kl,I.dst,ag.set,ag.dX,dh,I.gO]
   rw[this]at aq;have h1:=h.1;simp[step,e,e',aj,aF];exact⟨h1,aq⟩
 .exact h.elim
theorem ahY{t off n:Nat}{x y:O}:gH P gl (.ls x t off y n):=by
 intro st K h;simp[step]at h;split at h
 .rename_i ek dL cs aj aF;refine⟨_,h.2,λu hu=> ?_,λu hu=> ?_,λ_=>by simp[ag.dX,vm],λaP bK ai aq=> ?_⟩
  .simp_all[I.wr,I.kl,ag.dX,Jm]
  .simp_all[I.gO,ag.dX,dh,sg]
  .have e:=ai.bH t ayH;have e':=ai.aL (gl:=gl) (x:=x) (λt aE=>aAB _ aE);have B0:=ai.aL (gl:=gl) (x:=y) (λt aE=>aAN _ aE);have:mix (.ls x t off y n) aP ((kill st y).dX t (putCells cs off (cellsOf (aL gl st y))))=(kill aP y).dX t (putCells cs off (cellsOf (aL gl st y))):=by
    refine tQ (λu=> ?_) (λu=> ?_) (by simp[ag.dX,vm,I.ws])
    .exact PQ λhu=>ai.aR u (aAN _ hu)
    simp_all[I.gO,ag.dX,dh,sg]
   rw[this]at aq;have h1:=h.1;simp[step,e,e',B0,aj,aF];exact⟨h1,aq⟩
 .exact h.elim
theorem ahZ{i:I}(h:rM i=false)(ax:i.rs=false):gH P gl i:=by
 cases i with
 |cV=>exact ahq
 |hj=>exact ahT
 |e2=>exact ahU
 |dU=>exact ahr
 |kN=>exact ahV
 |fV=>exact ahW
 |wE=>exact ahM
 |li=>exact ahL
 |hX=>exact ahO
 |lt=>exact ahX
 |ls=>exact ahY
 |wF=>exact ahs
 |bi=>exact aht
 |eq=>exact ahu
 |un=>exact ahv
 |ci=>exact ahw
 |h'=>exact ahx
 |bs=>exact ahy
 |gK=>exact ahz
 |fd=>exact ahA
 |lQ=>exact ahB
 |aa=>exact ahC
 |mz=>exact ahD
 |ss=>exact ahJ
 |aN=>exact ahK
 |wG=>exact ahN
 |ni=>exact ahE
 |ex=>exact ahF
 |qm=>exact ahG
 |cr=>exact ahI
 |mA=>exact ahP h
 |bad=>exact ahQ
 |lR=>exact ahR
 |kO=>exact ahS
 |wH=>exact ahH
 |so=>grind[rM]
 |_=>grind[I.rs]
end
end Go.aH
