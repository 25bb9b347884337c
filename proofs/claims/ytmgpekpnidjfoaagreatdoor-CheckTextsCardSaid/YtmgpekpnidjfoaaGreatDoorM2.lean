/- Part of texts_said. -/
import Derived.Test.YtmgpekpnidjfoaaGreatDoorM1
set_option linter.defProp false
set_option maxRecDepth 100000
set_option maxHeartbeats 8000000
set_option linter.unusedSimpArgs false
set_option linter.unusedVariables false
namespace Go.aJ
variable {p:Prop}
def aBF:=@Array.getElem?_push
def aAp:=@List.getElem?_append_left
def aBZ:=@Option.bind_some
def aBu:=@List.length_eq_one_iff
def azW:=@Nat.le_of_ble_eq_true
theorem axB(h:p:=by rw[h8];exact p.sz):p:=h
theorem axO(h:p:=by rw[fD,hQ]):p:=h
theorem ayo(h:p:=by grind[World.cell?]):p:=h
theorem ayp(h:p:=by simp[h.ob.1]):p:=h
theorem ayy(h:p:=by simp_all[fD,mT,Nat.ne_of_lt]):p:=h
theorem ayU(h:p:=by rw[<-h.ob.1];simp):p:=h
theorem ayV(h:p:=by simp_all[execOp,Instr.alloc,newVar,newRow,rr]):p:=h
theorem ayW(h:p:=by simp_all[execOp,Instr.box,newVar,newRow]):p:=h
theorem ayX(h:p:=by have:=p.rel.ob.at aq;simp_all):p:=h
section
variable {P:Program}{gl:Nat->List D}{n0 nt:Nat}{a:Act}{w w':World}{G G':bJ}{ρ ρ':List Nat}{lam lam':Nat->Option Nat}{st aU:af}{K:af->Prop}{o:Oper}{Q:Exit->Act->World->Prop}
theorem adR{b off:Nat}{v:Value}(h:w.cell? ⟨b,off,none⟩=some v):b<w.heap.size:=ayo
theorem yj{b off:Nat}(h:w'.heap[b]?=w.heap[b]?):w'.cell? ⟨b,off,none⟩=w.cell? ⟨b,off,none⟩:=ayo
theorem cell_of_block{b j:Nat}{c:Array Value}{E:TypeId}{fz:Nat×Nat}(h:w.heap[b]?=some (.cells c E fz)):w.cell? ⟨b,j,none⟩=c[j]?:=ayo
theorem uy{b j:Nat}{c:Array Value}{E:TypeId}{fz:Nat×Nat}(h:w.heap[b]?=some (.cells c E fz)):w.frozen? ⟨b,j,none⟩=(decide (fz.1<=j)&&decide (j<fz.2)):=by
 grind[World.frozen?]
structure ga(w:World)(ob:Obj)(w':World):Prop where
 heap:w'.heap=w.heap.push ob
 os:w'.os=w.os:=by rfl
 out:w'.output=w.output:=by rfl
def fD(w:World)(G:bJ)(L:Loc)(n:Nat):bJ:=cW G w.heap.size (some (L,n))
section
variable {ob:Obj}{L0:Loc}{n0:Nat}(hw:ga w ob w')(aB:∀b L n,G b=some (L,n)->b<w.heap.size)
include hw
theorem ga.old{b:Nat}(aq:b<w.heap.size):w'.heap[b]?=w.heap[b]?:=by
 rw[hw.heap,aBF];grind
theorem ga.new:w'.heap[w.heap.size]?=some ob:=by rw[hw.heap,aBF];simp
theorem ga.size:w'.heap.size=w.heap.size+1:=by rw[hw.heap];simp
theorem ga.keeps:da w G w' (fD w G L0 n0):=by
 refine⟨?_,?_,?_⟩;rotate_left 2
 .intro b n h;obtain⟨c,E,fz,h2,av⟩:=h;have aq:=(aAk.1 h2).1;exact⟨c,E,fz,(hw.old aq).trans h2,av⟩
 .intro b off v h;have aq:=adR h.1;refine⟨by rw[yj (hw.old aq)];exact h.1,?_,h.2.2⟩;intro L n dB;rw[fD,mT _ _ (Nat.ne_of_lt aq)]at dB;exact h.2.1 _ _ dB
 .intro b o h;obtain⟨h1,av,h2⟩:=h;have aq:=(aAk.1 h2).1;exact⟨ayy,av,(hw.old aq).trans h2⟩
include aB
theorem ga.same(L:Loc):eV L L w G w' (fD w G L0 n0):=λb n h=>by
 have aq:=aB _ _ _ h;exact⟨hw.old aq,ayy⟩
theorem ga.good(h0:L0≠.foreign):Good w G w' (fD w G L0 n0) where
 size:=by grind[size]
 il b aq _:=⟨hw.old aq,ayy⟩
 new b n aq dB:=by
  rw[fD,df]at dB;grind
 old b n aq dB:=ayy
 keep:=hw.keeps
 os:=hw.os
 out:=hw.out
theorem ga.lt:∀b L n,fD w G L0 n0 b=some (L,n)->b<w'.heap.size:=λb L n h=>by
 rw[fD,df]at h;grind[size]
theorem ga.rel{tmps:Array Value}(h:bX gl w G ρ lam tmps st):bX gl w' (fD w G L0 n0) ρ lam tmps st where
 aP t:=(h.aP t).bR hw.keeps (λ_ _ h=>h) (λ_ _ h=>h) (hw.same aB _)
 bI t cs aq:=by
  obtain⟨b,h1,h2⟩:=h.bI t cs aq;exact⟨b,h1,dJ.bR hw.keeps (λ_ _ h=>h) (hw.same aB _) (λ_=>hw.same aB _) h2⟩
 nb:=h.nb
 ob:=h.ob.bR hw.keeps (λ_=>hw.same aB _) (λ_ _=>hw.same aB _)
 eI:=h.eI.bR hw.keeps
 lt:=hw.lt aB
end
theorem wg{cs:List ag}{vs:List Value}{L0:Loc}{LC:Nat->Loc}{E:TypeId}(hw:ga w (.cells ⟨vs⟩ E) w')(aw:cf w G ρ vs cs):
  dJ w' (fD w G L0 0) ρ w.heap.size L0 LC cs:=
 ⟨⟨vs⟩,E,(0,0),hw.new,axt,axO,ax5,λj v x hv ak=>.ck ((aw.get axu ak).keep hw.keeps λ_ _ h=>h)⟩
theorem bX.newLocal{d:Nat}{cs:List ag}{vs:List Value}{E:TypeId}(h:bX gl w G ρ lam a.tmps st)(hw:ga w (.cells ⟨vs⟩ E) w')(aw:cf w G ρ vs cs)(a6:d<a.tmps.size)(aq:st.bI d=none):
  bX gl w' (fD w G (.rf d) 0) ρ (cW lam d (some w.heap.size)) (a.tmps.setIfInBounds d (.pointer (some ⟨w.heap.size,0,none⟩))) ((st.dX d cs).set d (.dT d 0)):=by
 have adS:∀t b,lam t=some b->cW lam d (some w.heap.size) t=some b:=by
  grind[mT,nb]
 have h0:=hw.rel (L0:=.rf d) (n0:=0) h.lt h;refine bX.set (st:=st.dX d cs) ⟨λt=> ?_,?_,?_,h0.ob,h0.eI,h0.lt⟩ a6 ⟨w.heap.size,hQ _ _ _,rfl⟩
 .exact(h0.aP t).bR (da.refl _ _) (λ_ _ h=>h) adS (λb n h=>⟨rfl,h⟩)
 .intro t dY aC;simp[af.dX,df]at aC;by_cases NB:t=d
  .subst NB;grind[hQ,wg]
  .grind[bI]
 .intro t aC;simp[af.dX,df]at aC;by_cases NB:t=d
  .simp_all
  .grind[mT,nb]
theorem DI{α:Type}{l:List α}{x y:α}{i:Nat}(h:(l++[x])[i]?=some y):l[i]?=some y\/(i=l.length/\x=y):=axv
theorem bX.newObj{d:Nat}{cs:List ag}{vs:List Value}{E:TypeId}(h:bX gl w G ρ lam a.tmps st)(hw:ga w (.cells ⟨vs⟩ E) w')(aw:cf w G ρ vs cs)(a6:d<a.tmps.size):
  bX gl w' (fD w G (.obj st.s.length) 0) (ρ++[w.heap.size+1]) lam (a.tmps.setIfInBounds d (.pointer (some ⟨w.heap.size,0,none⟩))) ({st with s:=st.s++[b3.box cs]}.set d (.ptr st.s.length 0)):=by
 have cM:∀i b:Nat,ρ[i]?=some (b+1)->(ρ++[w.heap.size+1])[i]?=some (b+1):=axv;have h0:=hw.rel (L0:=.obj st.s.length) (n0:=0) h.lt h;have au:=hw.keeps (G:=G) (L0:=.obj st.s.length) (n0:=0);refine bX.set (st:={st with s:=st.s++[b3.box cs]}) ⟨λt=> ?_,?_,h0.nb,⟨ayp,?_⟩,h0.eI,h0.lt⟩ a6 (.ck (.ptr _ _ _ ayU))
 .exact(h0.aP t).bR (da.refl _ _) cM (λ_ _ h=>h) (λb n h=>⟨rfl,h⟩)
 .intro t dY aC;obtain⟨b,h1,h2⟩:=h0.bI t dY aC;exact⟨b,h1,dJ.bR (da.refl _ _) cM (λb n h=>⟨rfl,h⟩) (λj b n h=>⟨rfl,h⟩) h2⟩
 .intro i b o aq bb;rcases DI aq with eW|⟨hi,DJ⟩
  .have e7:i<st.s.length:=by
    rw[<-h.ob.1];grind
   rw[aAp e7]at bb;exact(h0.ob.2 i b o eW bb).bR (da.refl _ _) cM (λb n h=>⟨rfl,h⟩) (λj b n h=>⟨rfl,h⟩)
  .obtain rfl:w.heap.size=b:=by omega
   have je:i=st.s.length:=by rw[<-h.ob.1];omega
   subst je;simp at bb;subst bb;exact dJ.bR (da.refl _ _) cM (λb n h=>⟨rfl,h⟩) (λj b n h=>⟨rfl,h⟩) (wg (LC:=.dx st.s.length) hw aw)
theorem nG{t:Nat}{z:List ag}(h:zeros P t=some z):∃i v,P.info? t=some i/\i.zero=some v/\v.cells.size=z.length/\i.size=z.length/\∀{w G ρ},cf w G ρ v.cells.toList z:=by
 unfold zeros at h;simp at h;cases h1:od P 20 t with
 |none=>simp_all
 |some cs=>
  cases h2:P.info? t with
  |none=>simp_all
  |some i=>
   cases av:i.zero with
   |none=>simp_all
   |some v=>
    simp only[h1,h2,av,aBZ]at h;split at h
    .rename_i ay;simp at h;subst h;simp only[azH,azN]at ay;exact⟨i,v,rfl,av,ay.1.1,ay.1.2,Hf axu ay.2⟩
    simp_all
theorem rr{t:Nat}{i:TypeInfo}{v:Value}(h:P.info? t=some i)(aQ:i.zero=some v)(w:World):(zeroValue t).run P w=.ok v w:=by
 simp_all[zeroValue,typeInfo]
theorem adT{d e:Nat}{z:List ag}(p:bV n0 gl nt w G ρ lam a st)(aY:o.dst=some d)(bp:d<nt)(bu:o.op=.alloc e)(aQ:zeros P e=some z)
  (hs:step (bz P gl) gl (.kE d z) st K):o.wp P a w (cy n0 gl nt w G ρ K) Q:=by
 obtain⟨i,v,h1,h2,av,aZ,bW⟩:=nG aQ;simp[step]at hs;split at hs
 .rename_i aq;have aw:(execOp a.eval o).run P w=.ok (.value (.pointer (some ⟨w.heap.size,0,none⟩))) {w with heap:=w.heap.push (.cells v.cells e)}:=ayV;have hw:ga w (.cells ⟨v.cells.toList⟩ e) {w with heap:=w.heap.push (.cells v.cells e)}:=⟨rfl,rfl,rfl⟩;refine fP aw (jT p.eC (put_defers _ _ _) axB _ ρ (cW lam d (some w.heap.size)) _ ?_ (hw.good p.rel.lt (L0:=.rf d) (n0:=0) axt) (λ_ _ h=>h) hs);rw[aY];exact p.rel.newLocal hw bW (az' bp p.sz) aq
 .exact hs.elim
theorem adU{d e:Nat}{z:List ag}(p:bV n0 gl nt w G ρ lam a st)(aY:o.dst=some d)(bp:d<nt)(bu:o.op=.alloc e)(aQ:zeros P e=some z)
  (hs:step (bz P gl) gl (.br d z) st K):o.wp P a w (cy n0 gl nt w G ρ K) Q:=by
 obtain⟨i,v,h1,h2,av,aZ,bW⟩:=nG aQ;have aw:(execOp a.eval o).run P w=.ok (.value (.pointer (some ⟨w.heap.size,0,none⟩))) {w with heap:=w.heap.push (.cells v.cells e)}:=ayV;have hw:ga w (.cells ⟨v.cells.toList⟩ e) {w with heap:=w.heap.push (.cells v.cells e)}:=⟨rfl,rfl,rfl⟩;refine fP aw (jT p.eC (put_defers _ _ _) axB _ (ρ++[w.heap.size+1]) lam _ ?_ (hw.good p.rel.lt (L0:=.obj st.s.length) (n0:=0) axt) hE hs);rw[aY];exact p.rel.newObj hw bW (az' bp p.sz)
theorem dc.cells{v:Value}{x:ag}{n:Nat}(h:dc w G ρ v x)(az:(cellsOf x).all (dU n)=true):cf w G ρ v.cells.toList (cellsOf x):=by
 cases h with
 |undef v=>grind[cellsOf,dU]
 |agg vs cs h=>exact h
 |d v y h=>
  cases h with
  |agg vs cs h=>exact h.Dx
  |bool b=>exact .cons _ _ _ _ (.d _ _ (.bool b)) .nil
  |int k n=>exact .cons _ _ _ _ (.d _ _ (.int k n)) .nil
  |str s l h=>exact .cons _ _ _ _ (.d _ _ (.str s l h)) .nil
  |dO=>exact .cons _ _ _ _ (.d _ _ .dO) .nil
  |hj=>exact .cons _ _ _ _ (.d _ _ .hj) .nil
  |k5=>exact .cons _ _ _ _ (.d _ _ .k5) .nil
  |ig=>exact .cons _ _ _ _ (.d _ _ .ig) .nil
  |fn f=>exact .cons _ _ _ _ (.d _ _ (.fn f)) .nil
  |iface t v x h=>exact .cons _ _ _ _ (.d _ _ (.iface t v x h)) .nil
  |kK a c s=>exact .cons _ _ _ _ (.d _ _ (.kK a c s)) .nil
  |list b off n cap sz l vs h1 h2 av aZ bW=>exact .cons _ _ _ _ (.d _ _ (.list b off n cap sz l vs h1 h2 av aZ bW)) .nil
  |eY b base off vs cs h1 h2=>exact .cons _ _ _ _ (.d _ _ (.eY b base off vs cs h1 h2)) .nil
  |hL t v=>exact .cons _ _ _ _ (.d _ _ (.hL t v)) .nil
  |k6 b sG sH kl vl ks vs h1 h2 av aZ=>exact .cons _ _ _ _ (.d _ _ (.k6 b sG sH kl vl ks vs h1 h2 av aZ)) .nil
 |nil a sz=>exact .cons _ _ _ _ (.nil _ _) .nil
 |ptr i off b h=>exact .cons _ _ _ _ (.ptr _ _ _ h) .nil
 |map i b h=>exact .cons _ _ _ _ (.map _ _ h) .nil
 |aS i off len cap et sz b h ay aQ=>exact .cons _ _ _ _ (.aS _ _ _ _ _ _ _ h ay aQ) .nil
 |func f fj cs a c h1 h2=>exact .cons _ _ _ _ (.func _ _ _ _ _ h1 h2) .nil
 |tuple vs cs h=>exact .cons _ _ _ _ (.tuple _ _ h) .nil
 |fT i l h=>exact .cons _ _ _ _ (.fT _ _ h) .nil
theorem adV{v:Value}{x:ag}{L:Loc}{n:Nat}(h:de w G ρ lam L v (snap x))(az:(cellsOf (snap x)).all (dU n)=true):dc w G ρ v (snap x):=by
 rcases h.cases with h|⟨t,off,b,e,h1,h2⟩
 .have:=h.snap;have hs:snap (snap x)=snap x:=by cases x<;>rfl
  simp_all
 grind[cellsOf,dU]
theorem DK{v:Value}{x:ag}{L:Loc}{n:Nat}(h:de w G ρ lam L v x)(az:(cellsOf (gJ x)).all (dU n)=true):dc w G ρ v (gJ x):=by
 unfold gJ at az⊢;split at az
 .exact h
 .exact adV (h.snap (L':=.res)) az
theorem adW{d e n t1:Nat}{x:Operand}{bx:O}(p:bV n0 gl nt w G ρ lam a st)(aY:o.dst=some d)(bp:d<nt)(bu:o.op=.box e x)(ak:bP P t1 x=some bx)
  (hs:step (bz P gl) gl (.fO d bx n) st K):o.wp P a w (cy n0 gl nt w G ρ K) Q:=by
 simp[step]at hs;split at hs
 .rename_i aq;obtain⟨aE,hs⟩:=hs;simp only[azH]at aE;obtain⟨AG,kN⟩:=dC ak p.rel;have hA:=DK kN aE.2;have ay:=hA.cells aE.2;have aw:(execOp a.eval o).run P w=.ok (.value (.pointer (some ⟨w.heap.size,0,none⟩))) {w with heap:=w.heap.push (.cells (a.eval x).cells e)}:=ayW;have hw:ga w (.cells ⟨(a.eval x).cells.toList⟩ e) {w with heap:=w.heap.push (.cells (a.eval x).cells e)}:=⟨rfl,rfl,rfl⟩;refine fP aw (jT p.eC (put_defers _ _ _) axB _ ρ (cW lam d (some w.heap.size)) _ ?_ (hw.good p.rel.lt (L0:=.rf d) (n0:=0) axt) (λ_ _ h=>h) hs);rw[aY];exact p.rel.newLocal hw ay (az' bp p.sz) aq
 .exact hs.elim
theorem adX{d e n t1:Nat}{x:Operand}{bx:O}(p:bV n0 gl nt w G ρ lam a st)(aY:o.dst=some d)(bp:d<nt)(bu:o.op=.box e x)(ak:bP P t1 x=some bx)
  (hs:step (bz P gl) gl (.aq d bx n) st K):o.wp P a w (cy n0 gl nt w G ρ K) Q:=by
 obtain⟨aE,hs⟩:=hs;simp only[azH]at aE;obtain⟨AG,kN⟩:=dC ak p.rel;have hA:=DK kN aE.2;have ay:=hA.cells aE.2;have aw:(execOp a.eval o).run P w=.ok (.value (.pointer (some ⟨w.heap.size,0,none⟩))) {w with heap:=w.heap.push (.cells (a.eval x).cells e)}:=ayW;have hw:ga w (.cells ⟨(a.eval x).cells.toList⟩ e) {w with heap:=w.heap.push (.cells (a.eval x).cells e)}:=⟨rfl,rfl,rfl⟩;refine fP aw (jT p.eC (put_defers _ _ _) axB _ (ρ++[w.heap.size+1]) lam _ ?_ (hw.good p.rel.lt (L0:=.obj st.s.length) (n0:=0) axt) hE hs);rw[aY];exact p.rel.newObj hw ay (az' bp p.sz)
theorem dJ.range{b:Nat}{L:Loc}{LC:Nat->Loc}{cs:List ag}(h:dJ w G ρ b L LC cs){off n:Nat}(az:off+n<=cs.length):
  ∃vs:List Value,vs.length=n/\w.rangeAt b off vs/\∀j v x,vs[j]?=some v->((cs.drop off).take n)[j]?=some x->dr w G ρ (LC (off+j)) v x:=by
 obtain⟨c,E,fz,h1,h2,av,aZ,bW⟩:=h;refine⟨(c.toList.drop off).take n,axv,?_,?_⟩
 .intro j v hv;grind[cell_of_block]
 grind
theorem AH{b off t n:Nat}{ah:Bool}{L:Loc}{LC:Nat->Loc}{cs:List ag}(h:dJ w G ρ b L LC cs)(az:off+n<=cs.length)(aQ:dp P t=some n)(dK:kf P t=some ah)(h1:ah=false->n=1):
  ∃v,(Instr.loadAt t (.pointer (some ⟨b,off,none⟩))).run P w=.ok v w/\dc w G ρ v (valOf cs off n ah):=by
 obtain⟨vs,aH,aw,hv⟩:=h.range az;have o6:(P.info? t).map (·.size)=some vs.length:=by rw[aH];exact aQ
 cases ah with
 |true=>
  have:∃d,P.underlying t=some d/\d.isRow=true:=by
   grind[kf]
  obtain⟨d,hu,a6⟩:=this;refine⟨.agg vs.toArray,run_loadAt_mid w b off t vs d aw hu a6 o6,?_⟩;exact Dy (LC:=λj=>LC (off+j)) axv hv
 |false=>
  obtain rfl:=h1 rfl;obtain⟨v,rfl⟩:=aBu.1 aH;refine⟨v,?_,?_⟩
  .have ay:=aw 0 v rfl;simp_all[Instr.loadAt,Instr.sureAddr,loadVar,vX]
  .have ak:cs[off]?=some (cs.getD off .undef):=by grind
   have h2:((cs.drop off).take 1)[0]?=some (cs.getD off .undef):=axv;exact(hv 0 v (cs.getD off .undef) rfl h2).snap
theorem adY{d t s off n t1:Nat}{ah:Bool}{x:Operand}{bx:O}(p:bV n0 gl nt w G ρ lam a st)(aY:o.dst=some d)(bp:d<nt)(bu:o.op=.load t x)(ak:bP P t1 x=some bx)
  (aQ:dp P t=some n) (dK:kf P t=some ah) (h1:ah=false->n=1) (hs:step (bz P gl) gl (.hN d bx s off n ah) st K):o.wp P a w (cy n0 gl nt w G ρ K) Q:=by
 obtain⟨e6,aw⟩:=dC ak p.rel;simp[step]at hs;split at hs
 .rename_i ek dI cs aj aD;obtain⟨aE,hs⟩:=hs;simp only[azH]at aE;obtain⟨⟨aC,bb⟩,az⟩:=aE;obtain rfl:ek=s:=azR aC;obtain rfl:dI=off:=azR bb;rw[aj]at aw;obtain⟨b,aq,hv⟩:=aw;obtain⟨cg,eW,fw⟩:=p.rel.bI ek cs aD;rw[eW]at aq;simp at aq;obtain⟨v,dy,dt⟩:=AH fw (azW az) aQ dK h1;refine p.value aY bp (v:=v) ?_ (.ck dt) hs;grind[execOp,Sem.run_bind,Result.andThen_ok,Sem.run_pure]
 .exact hs.elim
theorem ho.at{s:aV}(h:ho w G ρ s){i b:Nat}(hi:ρ[i]?=some (b+1)):kj w G ρ i b (s.getD i .dead):=by
 have aH:i<s.length:=by
  rw[<-h.1];grind
 exact h.2 i b _ hi axu
theorem adZ{b base off t n:Nat}{ah:Bool}{vs:List Value}{cs:List D}(ay:iK w G b base vs)(aw:cn w G vs cs)(az:off+n<=cs.length)(aQ:dp P t=some n)(dK:kf P t=some ah)(h1:ah=false->n=1):
  ∃v,(Instr.loadAt t (.pointer (some ⟨b,base+off,none⟩))).run P w=.ok v w/\Rd w G v (cond ah (.agg ((cs.drop off).take n)) (cs.getD off .dO)):=by
 have aH:=aw.length;have sO:=λj v hv=>(ay.sub off n j v hv).1;have hlen:((vs.drop off).take n).length=n:=axv;cases ah with
 |true=>
  have:∃d,P.underlying t=some d/\d.isRow=true:=by
   grind[kf]
  obtain⟨d,hu,a6⟩:=this;exact⟨.agg ((vs.drop off).take n).toArray,run_loadAt_mid w b _ t _ d sO hu a6 (by rw[hlen];exact aQ),.agg _ _ ((aw.drop off).take n)⟩
 |false=>
  obtain rfl:=h1 rfl;have aB:off<vs.length:=axs;have hv:=azQ aB;have hcell:=(ay off _ hv).1;refine⟨vs[off],?_,aw.get hv axv⟩;simp_all[Instr.loadAt,Instr.sureAddr,loadVar,vX]
theorem ad0{d t n t1:Nat}{ah:Bool}{x:Operand}{bx:O}(p:bV n0 gl nt w G ρ lam a st)(aY:o.dst=some d)(bp:d<nt)(bu:o.op=.load t x)(ak:bP P t1 x=some bx)
  (aQ:dp P t=some n) (dK:kf P t=some ah) (h1:ah=false->n=1) (hs:step (bz P gl) gl (.aH d bx n ah) st K):o.wp P a w (cy n0 gl nt w G ρ K) Q:=by
 obtain⟨e6,aw⟩:=dC ak p.rel;simp[step]at hs;split at hs
 .rename_i i off aj;rw[aj]at aw;have gO:=aw;cases b8:a.eval x<;>rw[b8]at gO<;>cases gO;rename_i b aq;split at hs
  .rename_i cs aD;obtain⟨az,hs⟩:=hs;simp only[azH]at az;replace az:=az.1;have fw:kj w G ρ i b (.box cs):=ayX;obtain⟨v,dy,dt⟩:=AH (show dJ w G ρ b (.obj i) (.dx i) cs from fw) (azW az) aQ dK h1;refine p.value aY bp (v:=v) ?_ (.ck dt) hs;grind[execOp,Sem.run_bind,Result.andThen_ok,Sem.run_pure]
  .exact hs.elim
 .rename_i cs off aj;rw[aj]at aw;have cc:=aw.iq;cases b8:a.eval x<;>rw[b8]at cc<;>cases cc;rename_i b base vs ay jv;obtain⟨az,hs⟩:=hs;obtain⟨v,dy,dt⟩:=adZ ay jv (azW az) aQ dK h1;refine p.value aY bp (v:=v) ?_ (.ck (.d _ _ dt)) hs;grind[execOp,Sem.run_bind,Result.andThen_ok,Sem.run_pure]
 .exact hs.elim
def aBG:=@Array.getElem?_modify
def aAM:=@Nat.not_lt_zero
def aB0:=@Array.getElem?_setIfInBounds
def aAq:=@List.getElem?_set_self
def aAm:=@List.getElem?_set_ne
def aBj:=@List.ext_getElem?
def aBk:=@Go.run_storeCells_cells
def aAj:=@Nat.add_zero
theorem ax'(h:p:=by simpa using h.ob.1):p:=h
theorem ayY(h:p:=by have:=h.ob.at hi;rwa [aq]at this):p:=h
theorem yk{b off cg:Nat}{u:Value}(h:cg≠b):(w.setCell ⟨b,off,none⟩ u).heap[cg]?=w.heap[cg]?:=by
 simp_all[World.setCell,aBG,azZ]
theorem Hq{b off:Nat}{u:Value}{c:Array Value}{E:TypeId}{fz:Nat×Nat}(h:w.heap[b]?=some (.cells c E fz)):(w.setCell ⟨b,off,none⟩ u).heap[b]?=some (.cells (c.setIfInBounds off u) E fz):=by
 grind[World.setCell]
theorem Hr{b off:Nat}{u:Value}:(w.setCell ⟨b,off,none⟩ u).heap.size=w.heap.size:=axt
section
variable {b off:Nat}{u:Value}{L0:Loc}(dB:G b=some (L0,0))
include dB
theorem AJ:da w G (w.setCell ⟨b,off,none⟩ u) G:=by
 refine⟨?_,?_,?_⟩;rotate_left 2
 .intro cg n h;obtain⟨c,E,fz,h2,av⟩:=h;by_cases cB:cg=b
  .subst cB;exact⟨_,E,fz,Hq h2,axu⟩
  .exact⟨c,E,fz,(yk cB).trans h2,av⟩
 .intro cg dI v h;have cB:cg≠b:=by rintro rfl;exact absurd (h.2.1 _ _ dB) (aAM _)
  exact⟨by rw[yj (yk cB)];exact h.1,h.2⟩
 .intro cg o h;obtain⟨h1,av,h2⟩:=h;have cB:cg≠b:=axv;exact⟨h1,av,(yk cB).trans h2⟩
theorem DL{L:Loc}(bF:L≠L0):eV L L w G (w.setCell ⟨b,off,none⟩ u) G:=by
 intro cg n h;have cB:cg≠b:=axv;grind[yk]
theorem NC(h0:L0≠.foreign)(aB:∀b L n,G b=some (L,n)->b<w.heap.size):Good w G (w.setCell ⟨b,off,none⟩ u) G where
 size:=axt
 il cg _ h:=by
  have cB:cg≠b:=axv;grind[yk]
 new b n aq dB:=absurd (aB _ _ _ dB) (aAW.2 aq)
 old _ _ _ h:=h
 keep:=AJ dB
 os:=rfl
 out:=rfl
end
theorem dJ.write{b off:Nat}{u:Value}{x:ag}{L:Loc}{LC:Nat->Loc}{cs:List ag}(h:dJ w G ρ b L LC cs)(ak:dr w G ρ (LC off) u x)(ND:∀j,LC j≠L):
  dJ (w.setCell ⟨b,off,none⟩ u) G ρ b L LC (cs.set off x):=by
 obtain⟨c,E,fz,h1,h2,av,aZ,bW⟩:=h;refine⟨c.setIfInBounds off u,E,fz,Hq h1,axu,av,axu,?_⟩;intro j v y hv hy;by_cases aL:j=off
 .subst aL;have aB:j<cs.length:=axv;rw[aB0]at hv;simp only[if_true,show j<c.size by omega]at hv;simp at hv;rw[aAq aB]at hy;simp at hy;subst hv;subst hy;exact ak.bR (AJ av) (λ_ _ h=>h) (DL av (ND _))
 .rw[Array.getElem?_setIfInBounds_ne (azZ aL)]at hv;rw[aAm (azZ aL)]at hy;exact(bW j v y hv hy).bR (AJ av) (λ_ _ h=>h) (DL av (ND _))
theorem bX.Hs{tmps:Array Value}{t b off:Nat}{u:Value}{x:ag}{cs:List ag}(h:bX gl w G ρ lam tmps st)(aq:st.bI t=some cs)(aH:lam t=some b)(ak:dr w G ρ (.re t off) u x):
  bX gl (w.setCell ⟨b,off,none⟩ u) G ρ lam tmps (st.dX t (cs.set off x))/\Good w G (w.setCell ⟨b,off,none⟩ u) G:=by
 obtain⟨cg,sP,fw⟩:=h.bI t cs aq;rw[aH]at sP;simp at sP;subst sP;have dB:G b=some (.rf t,0):=by obtain⟨_,_,_,_,_,av,_⟩:=fw;omega
 have au:=AJ (w:=w) (off:=off) (u:=u) dB;have hs:∀L,L≠.rf t->eV L L w G (w.setCell ⟨b,off,none⟩ u) G:=λL bF=>DL dB bF;refine⟨⟨λs=>(h.aP s).bR au (λ_ _ h=>h) (λ_ _ h=>h) (hs _ axt),?_,?_,h.ob.bR au (λ_=>hs _ axt) (λ_ _=>hs _ axt),h.eI.bR au,λb L n aE=>by rw[Hr];exact h.lt _ _ _ aE⟩,
  NC dB axt h.lt⟩
 .intro s dY gp;simp[af.dX,df]at gp;by_cases ev:s=t
  .subst ev;grind[dJ.write]
  .simp[ev,az4]at gp;obtain⟨aR,h1,h2⟩:=h.bI s dY gp;exact⟨aR,h1,dJ.bR au (λ_ _ h=>h) (hs _ axu) (λj=>hs _ axt) h2⟩
 .intro s gp;simp[af.dX,df]at gp;by_cases ev:s=t
  .simp_all
  .grind[nb]
theorem ad1(st:af)(t:Nat)(a b:List ag):(st.dX t a).dX t b=st.dX t b:=by
 unfold af.dX;congr 1;grind[df]
theorem ad2{st:af}{t:Nat}{cs:List ag}(h:st.bI t=some cs):st.dX t cs=st:=by
 unfold af.dX;cases st with
 |mk aP bI s=>
  congr 1
  grind[df]
theorem bX.Ht{tmps:Array Value}{t b:Nat}:∀{us:List Value} {xs:List ag} {off:Nat} {cs:List ag} {w:World} {st:af},bX gl w G ρ lam tmps st->st.bI t=some cs->lam t=some b->cf w G ρ us xs->
  bX gl (w.setCells b off us) G ρ lam tmps (st.dX t (putCells cs off xs))/\Good w G (w.setCells b off us) G
 |[],xs,off,cs,w,st,h,aq,aH,aw=>by
  cases aw;rw[show putCells cs off []=cs from rfl,ad2 aq];exact⟨h,Good.refl h.lt⟩
 |u::us,xs,off,cs,w,st,h,aq,aH,aw=>by
  cases aw with
  |cons _ x _ xs ak iL=>
   obtain⟨h1,g1⟩:=h.Hs (off:=off) aq aH (.ck ak);have eW:(st.dX t (cs.set off x)).bI t=some (cs.set off x):=by simp[af.dX,hQ]
   obtain⟨h2,g2⟩:=bX.Ht (off:=off+1) h1 eW aH (iL.keep g1.keep λ_ _ h=>h);rw[ad1]at h2;exact⟨h2,g1.trans g2⟩
theorem bX.Hu{tmps:Array Value}{i b off:Nat}{u:Value}{x:ag}{cs:List ag}(h:bX gl w G ρ lam tmps st)(aq:st.s.getD i .dead=.box cs)(hi:ρ[i]?=some (b+1))(ak:dr w G ρ (.dx i off) u x):
  bX gl (w.setCell ⟨b,off,none⟩ u) G ρ lam tmps {st with s:=st.s.set i (.box (cs.set off x))}/\Good w G (w.setCell ⟨b,off,none⟩ u) G:=by
 have fw:=ayY;have dB:G b=some (.obj i,0):=by obtain⟨_,_,_,_,_,av,_⟩:=fw;omega
 have au:=AJ (w:=w) (off:=off) (u:=u) dB;have hs:∀L,L≠.obj i->eV L L w G (w.setCell ⟨b,off,none⟩ u) G:=λL bF=>DL dB bF;refine⟨⟨λs=>(h.aP s).bR au (λ_ _ h=>h) (λ_ _ h=>h) (hs _ axt),?_,h.nb,⟨ax',?_⟩,h.eI.bR au,λb L n aE=>by rw[Hr];exact h.lt _ _ _ aE⟩,
  NC dB axt h.lt⟩
 .intro s dY gp;obtain⟨aR,h1,h2⟩:=h.bI s dY gp;exact⟨aR,h1,dJ.bR au (λ_ _ h=>h) (hs _ axt) (λj=>hs _ axt) h2⟩
 .intro j aR ob aL cq;by_cases eQ:j=i
  .subst eQ;rw[hi]at aL;simp at aL;obtain rfl:b=aR:=axs;have aB:j<st.s.length:=axv;simp[aAq aB,azJ]at cq;subst cq;exact fw.write ak axt
  .simp[aAm (azZ eQ)]at cq;exact(h.ob.2 j aR ob aL cq).bR au (λ_ _ h=>h) (hs _ axu) (λk=>hs _ axt)
theorem ad3{s:aV}{i:Nat}{cs dY:List ag}(h:s.getD i .dead=.box cs):(s.set i (.box dY)).getD i .dead=.box dY:=axv
theorem Hv{s:aV}{i:Nat}{cs:List ag}(h:s.getD i .dead=.box cs):s.set i (.box cs)=s:=by
 apply aBj;grind
theorem bX.AK{tmps:Array Value}{i b:Nat}(hi:ρ[i]?=some (b+1)):∀{us:List Value} {xs:List ag} {off:Nat} {cs:List ag} {w:World} {st:af},bX gl w G ρ lam tmps st->st.s.getD i .dead=.box cs->cf w G ρ us xs->
  bX gl (w.setCells b off us) G ρ lam tmps {st with s:=st.s.set i (.box (putCells cs off xs))}/\Good w G (w.setCells b off us) G
 |[],xs,off,cs,w,st,h,aq,aw=>by
  cases aw;rw[show putCells cs off []=cs from rfl,Hv aq];exact⟨h,Good.refl h.lt⟩
 |u::us,xs,off,cs,w,st,h,aq,aw=>by
  cases aw with
  |cons _ x _ xs ak iL=>
   obtain⟨h1,g1⟩:=h.Hu (off:=off) aq hi (.ck ak);have eW:({st with s:=st.s.set i (.box (cs.set off x))}:af).s.getD i .dead=.box (cs.set off x):=ad3 aq;obtain⟨h2,g2⟩:=bX.AK hi (off:=off+1) h1 eW (iL.keep g1.keep λ_ _ h=>h);simp at h2;exact⟨h2,g1.trans g2⟩
theorem DM{b off t:Nat}{v:Value}{L:Loc}{LC:Nat->Loc}{cs:List ag}(h:dJ w G ρ b L LC cs)(az:off+v.cells.size<=cs.length)(aQ:dp P t=some v.cells.size)(h1:∀u∈v.cells.toList,u.oneCell'=true):
  (Instr.storeAt t (.pointer (some ⟨b,off,none⟩)) v).run P w=.ok () (w.setCells b off v.cells.toList):=by
 obtain⟨c,E,fz,aj,aD,aW,bQ,cK⟩:=h;have:=aBk (P:=P) b off v.cells.toList 0 w
  (λj aL=>by
   rw[aAj,cell_of_block aj];grind)
  (λj aL=>by
   rw[aAj,uy aj];have aB:off+j<c.size:=axv;simp_all)
  h1
 simp_all[Instr.storeAt,Instr.sureAddr,storeVar,jE]
theorem NF{v:Value}{x:ag}(h:dc w G ρ v x)(ay:sy x=true):v.oneCell'=true:=by
 cases h with
 |d v y h=>cases h<;>first|rfl|grind[sy]
 |undef v=>grind[sy]
 |agg _ _ _=>grind[sy]
 |tuple _ _ _=>grind[sy]
 |fT _ _ _=>grind[sy]
 |_=>rfl
def aA9:=@List.getElem_of_mem
def azX:=@List.all_eq_true
def azT:=@List.getElem_mem
theorem aya(h:p:=by grind[execOp,Sem.run_bind,Result.andThen_ok,Sem.run_pure]):p:=h
theorem ayz(h:p:=by rw[cm];exact azW kn):p:=h
theorem ayA(h:p:=by rw[aY];exact dt):p:=h
theorem ayZ(h:p:=by have:=p.rel.ob.at aq;rwa [aD]at this):p:=h
theorem DN{t:Nat}{x:Operand}{y:O}(p:bV n0 gl nt w G ρ lam a st)(ak:bP P t x=some y)(fQ:(cellsOf (aK gl st y)).all kc=true):
  (kill st y=st/\cf w G ρ (a.eval x).cells.toList (cellsOf (aK gl st y))/\∀u∈(a.eval x).cells.toList,u.oneCell'=true)\/
  (∃s z,y=.t s/\st.aP s=z/\kill st y=st.set s .undef/\cellsOf (aK gl st y)=[z]/\(a.eval x).cells.toList=[a.eval x]/\(a.eval x).oneCell'=true/\dr w G ρ (.slot s) (a.eval x) z):=by
 have plain:∀{z:ag},dc w G ρ (a.eval x) z->(cellsOf z).all kc=true->cf w G ρ (a.eval x).cells.toList (cellsOf z)/\∀u∈(a.eval x).cells.toList,u.oneCell'=true:=by
  intro z aQ gP;have az:(cellsOf z).all (dU depth)=true:=by
   simp_all[kc]
  have bF:=aQ.cells az;refine⟨bF,?_⟩;intro u hu;obtain⟨j,aL,rfl⟩:=aA9 hu;have mh:j<(cellsOf z).length:=ax5;have aw:=bF.get (azQ aL) (azQ mh);have:=(azX.1 gP) _ (azT mh);simp[kc,azH]at this;exact NF aw this.1
 rcases Hi ak p.rel with⟨s,rfl,rfl⟩|⟨az,hA⟩
 .rcases vW st (.t s)with⟨au,qf⟩|⟨s',gp,au,z,aQ,kO⟩
  .refine .inl ⟨au,?_⟩;have ew:=p.rel.aP s;rcases ew.cases with hV|⟨ek,off,b,e,_,_⟩
   .rcases hV.cases with hA|⟨sz,l,e,fm⟩|⟨sz,n,us,e,fm⟩
    .exact plain hA fQ
    .have:=qf s rfl;rw[e]at this;cases l<;>simp[ij,q5]at this
    grind[q5]
   grind[aK,cellsOf,kc,sy]
  .cases gp;right;have ew:=p.rel.aP s;rw[kO]at ew;have hV:dr w G ρ (.slot s) (a.tmps.getD s undef) z:=by cases z<;>simp[q5]at aQ<;>exact ew
   have km:∃cx n c,a.tmps.getD s undef=.slice cx n c:=by
    rcases hV.cases with hA|⟨h5,bC,e,dV⟩|⟨h5,n',atw,e,dV⟩
    .cases z<;>simp[q5]at aQ<;>cases hv:a.tmps.getD s undef<;>rw[hv]at hA<;>cases hA;simp
    .rcases dV with⟨b,off,cap,c,E,fz,vs,h1,_⟩|⟨_,_,h1⟩<;>exact⟨_,_,_,h1⟩
    .obtain⟨b,cap,c,E,fz,vs,h1,_⟩:=dV;simp_all
   obtain⟨cx,n,c,hv⟩:=km;have nH:a.eval (.tmp s)=.slice cx n c:=hv;refine⟨s,z,rfl,kO,au,?_,?_,?_,?_⟩
   .show cellsOf (st.aP s)=_;rw[kO];cases z<;>simp[q5]at aQ<;>rfl
   .rw[nH];rfl
   .rw[nH];rfl
   simp_all
 grind[vW]
theorem bX.DP{tmps:Array Value}{s:Nat}{L:Loc}(h:bX gl w G ρ lam tmps st):
  bX gl w (cZ (fc (.slot s) L) G) ρ lam tmps (st.set s .undef):=by
 have au:da w G w (cZ (fc (.slot s) L) G):=jD _;have hid:∀L',L'≠.slot s->eV L' L' w G w (cZ (fc (.slot s) L) G):=λL' bF=>ri (qd bF);refine⟨?_,?_,h.nb,?_,h.eI.bR au,qc h.lt⟩
 .intro t;simp only[af.set,df];by_cases aC:t=s
  .simp[aC,if_true];exact .ck (.undef _)
  .simp only[aC,az4];exact(h.aP t).bR au (λ_ _ h=>h) (λ_ _ h=>h) (hid _ axv)
 .intro t cs aq;obtain⟨b,h1,h2⟩:=h.bI t cs aq;exact⟨b,h1,dJ.bR au (λ_ _ h=>h) (hid _ axt) (λj=>hid _ axt) h2⟩
 .exact h.ob.bR au (λi=>hid _ axt) (λi j=>hid _ axt)
theorem ad4{b off:Nat}{u:Value}:w.setCells b off [u]=w.setCell ⟨b,off,none⟩ u:=rfl
theorem ad5{t tb off n t1 t2:Nat}{x y:Operand}{bx y':O}(p:bV n0 gl nt w G ρ lam a st)(aY:o.dst=none)(bu:o.op=.store t x y)(ak:bP P t1 x=some bx)(hy:bP P t2 y=some y')
  (aQ:dp P t=some n) (hs:step (bz P gl) gl (.ls bx tb off y' n) st K):o.wp P a w (cy n0 gl nt w G ρ K) Q:=by
 obtain⟨e6,aw⟩:=dC ak p.rel;simp[step]at hs;split at hs
 .rename_i ek dI cs aj aD;obtain⟨aE,hs⟩:=hs;simp only[azH]at aE;obtain⟨⟨⟨⟨aC,bb⟩,qi⟩,kn⟩,fQ⟩:=aE;obtain rfl:ek=tb:=azR aC;obtain rfl:dI=off:=azR bb;have qi:=azR qi;rw[aj]at aw;obtain⟨b,aq,hv⟩:=aw;obtain⟨cg,eW,fw⟩:=p.rel.bI ek cs aD;rw[eW]at aq;simp at aq;have fC:(Instr.storeAt t (.pointer (some ⟨cg,dI,none⟩)) (a.eval y)).run P w=.ok () (w.setCells cg dI (a.eval y).cells.toList)->(execOp a.eval o).run P w=.ok .skip (w.setCells cg dI (a.eval y).cells.toList):=aya;rcases DN p hy fQ with⟨au,bF,h1⟩|⟨s,z,rfl,hr,au,gQ,jf,h1,hV⟩
  .have cm:(a.eval y).cells.size=n:=by grind[Array.length_toList,cf.length]
   have dy:=DM (P:=P) (t:=t) (v:=a.eval y) fw ayz axu h1;obtain⟨dt,di⟩:=bX.Ht p.rel aD eW bF;rw[au]at hs;exact uu (fC dy) (jT p.eC (put_defers _ _ _) axB G ρ lam _ ayA di (λ_ _ h=>h) hs)
  .have cm:(a.eval y).cells.size=n:=by grind[Array.length_toList]
   have dy:=DM (P:=P) (t:=t) (v:=a.eval y) fw ayz axu axu;have jW:=p.rel.DP (s:=s) (L:=.re ek dI);have wh:=by
    have:=oh (w:=w) (G:=G) (fc (.slot s) (.re ek dI)) (.slot s);rw[sI]at this;exact hV.bR (jD _) (λ_ _ h=>h) this
   obtain⟨dt,di⟩:=bX.Hs (off:=dI) jW (show(st.set s .undef).bI ek=some cs from aD) eW wh;rw[au,gQ]at hs;rw[jf]at dy fC;exact uu (fC dy) (jT p.eC (put_defers _ _ _) axB _ ρ lam _ ayA ((qe p.rel.lt axt axt).trans di) (λ_ _ h=>h) hs)
 .exact hs.elim
theorem ad6{t n t1 t2:Nat}{x y:Operand}{bx y':O}(p:bV n0 gl nt w G ρ lam a st)(aY:o.dst=none)(bu:o.op=.store t x y)(ak:bP P t1 x=some bx)(hy:bP P t2 y=some y')
  (aQ:dp P t=some n) (hs:step (bz P gl) gl (.hs bx y' n) st K):o.wp P a w (cy n0 gl nt w G ρ K) Q:=by
 obtain⟨e6,aw⟩:=dC ak p.rel;simp only[step]at hs;split at hs
 .rename_i i off aj;rw[aj]at aw;have gO:=aw;cases b8:a.eval x<;>rw[b8]at gO<;>cases gO;rename_i b aq;split at hs
  .rename_i cs aD;obtain⟨aE,hs⟩:=hs;simp only[azH]at aE;obtain⟨⟨qi,kn⟩,fQ⟩:=aE;have qi:=azR qi;have fw:=ayZ;have fC:(Instr.storeAt t (.pointer (some ⟨b,off,none⟩)) (a.eval y)).run P w=.ok () (w.setCells b off (a.eval y).cells.toList)->(execOp a.eval o).run P w=.ok .skip (w.setCells b off (a.eval y).cells.toList):=aya;rcases DN p hy fQ with⟨au,bF,h1⟩|⟨s,z,rfl,hr,au,gQ,jf,h1,hV⟩
   .have cm:(a.eval y).cells.size=n:=by grind[Array.length_toList,cf.length]
    have dy:=DM (P:=P) (t:=t) (v:=a.eval y) fw ayz axu h1;obtain⟨dt,di⟩:=bX.AK aq p.rel aD bF;rw[au]at hs;exact uu (fC dy) (jT p.eC (put_defers _ _ _) axB G ρ lam _ ayA di (λ_ _ h=>h) hs)
   .have cm:(a.eval y).cells.size=n:=by grind[Array.length_toList]
    have dy:=DM (P:=P) (t:=t) (v:=a.eval y) fw ayz axu axu;have jW:=p.rel.DP (s:=s) (L:=.dx i off);have wh:dr w (cZ (fc (.slot s) (.dx i off)) G) ρ (.dx i off) (a.eval y) z:=by
     have:=oh (w:=w) (G:=G) (fc (.slot s) (.dx i off)) (.slot s);rw[sI]at this;exact hV.bR (jD _) (λ_ _ h=>h) this
    obtain⟨dt,di⟩:=bX.Hu (off:=off) jW (show(st.set s .undef).s.getD i .dead=.box cs from aD) aq wh;rw[au,gQ]at hs;rw[jf]at dy fC;rw[ad4]at dy fC;exact uu (fC dy) (jT p.eC (put_defers _ _ _) axB _ ρ lam _ ayA ((qe p.rel.lt axt axt).trans di) (λ_ _ h=>h) hs)
  .exact hs.elim
 .exact hs.elim
theorem dJ.NG{b off:Nat}{cs:List ag}{L:Loc}{LC:Nat->Loc}{d:Nat}(h:dJ w G ρ b L LC cs)(bF:L≠LC off)(cB:∀j,j≠off->LC j≠LC off)(aB:off<cs.length):
  dJ w (cZ (fc (LC off) (.slot d)) G) ρ b L LC (cs.set off .undef)/\∃v,w.cell? ⟨b,off,none⟩=some v/\dr w (cZ (fc (LC off) (.slot d)) G) ρ (.slot d) v (cs.getD off .undef):=by
 have au:da w G w (cZ (fc (LC off) (.slot d)) G):=jD _;have hid:∀L',L'≠LC off->eV L' L' w G w (cZ (fc (LC off) (.slot d)) G):=λL' bF=>ri (qd bF);obtain⟨c,E,fz,h1,h2,av,aZ,bW⟩:=h;refine⟨⟨c,E,fz,h1,h2,(hid L bF _ _ av).2,axu,?_⟩,?_⟩
 .intro j v y hv hy;by_cases aL:j=off
  .subst aL;rw[aAq aB]at hy;simp at hy;subst hy;exact .ck (.undef _)
  .rw[aAm (azZ aL)]at hy;exact(bW j v y hv hy).bR au (λ_ _ h=>h) (hid _ (cB j aL))
 .have qj:=by omega
  refine⟨c[off],by rw[cell_of_block h1];simp,?_⟩;have ak:cs[off]?=some (cs.getD off .undef):=axu;have hs:=oh (w:=w) (G:=G) (fc (LC off) (.slot d)) (LC off);rw[sI]at hs;exact(bW off c[off] _ axt ak).bR au (λ_ _ h=>h) hs
theorem NH{b off t:Nat}{v:Value}(ay:w.cell? ⟨b,off,none⟩=some v)(dK:kf P t=some false):(Instr.loadAt t (.pointer (some ⟨b,off,none⟩))).run P w=.ok v w:=by
 simp_all[Instr.loadAt,Instr.sureAddr,loadVar,vX]
theorem ad7{d t tb off t1:Nat}{x:Operand}{bx:O}(p:bV n0 gl nt w G ρ lam a st)(aY:o.dst=some d)(bp:d<nt)(bu:o.op=.load t x)(ak:bP P t1 x=some bx)
  (dK:kf P t=some false) (hs:step (bz P gl) gl (.lt d bx tb off) st K):o.wp P a w (cy n0 gl nt w G ρ K) Q:=by
 obtain⟨e6,aw⟩:=dC ak p.rel;simp[step]at hs;split at hs
 .rename_i ek dI cs aj aD;obtain⟨aE,hs⟩:=hs;simp only[azH]at aE;obtain⟨⟨aC,bb⟩,az⟩:=aE;obtain rfl:ek=tb:=azR aC;obtain rfl:dI=off:=azR bb;have aB:dI<cs.length:=axu;rw[aj]at aw;obtain⟨b,aq,hv⟩:=aw;obtain⟨cg,eW,fw⟩:=p.rel.bI ek cs aD;rw[eW]at aq;simp at aq;obtain⟨NI,v,ay,hV⟩:=fw.NG (d:=d) (off:=dI) axt axt aB;have au:da w G w (cZ (fc (.re ek dI) (.slot d)) G):=jD _;have hid:∀L',L'≠.re ek dI->eV L' L' w G w (cZ (fc (.re ek dI) (.slot d)) G):=λL' bF=>ri (qd bF);have dt:bX gl w (cZ (fc (.re ek dI) (.slot d)) G) ρ lam a.tmps (st.dX ek (cs.set dI .undef)):=by
   refine⟨λs=>(p.rel.aP s).bR au (λ_ _ h=>h) (λ_ _ h=>h) (hid _ axt),?_,?_,p.rel.ob.bR au (λ_=>hid _ axt) (λ_ _=>hid _ axt),p.rel.eI.bR au,qc p.rel.lt⟩
   .intro s dY gp;simp[af.dX,df]at gp;by_cases ev:s=ek
    .simp_all
    .simp[ev,az4]at gp;obtain⟨aR,h1,h2⟩:=p.rel.bI s dY gp;exact⟨aR,h1,dJ.bR au (λ_ _ h=>h) (hid _ axt) (λj=>hid _ axu) h2⟩
   .intro s gp;simp[af.dX,df]at gp;by_cases ev:s=ek
    .simp_all
    .simp[ev,az4]at gp;exact p.rel.nb s gp
  refine fP (v:=v) ?_ (nF dt p.eC p.sz bp (qe p.rel.lt axt axt) (λ_ _ h=>h) aY (.lb hV) hs);simp_all[execOp,NH]
 .exact hs.elim
theorem ad8{d t t1:Nat}{x:Operand}{bx:O}(p:bV n0 gl nt w G ρ lam a st)(aY:o.dst=some d)(bp:d<nt)(bu:o.op=.load t x)(ak:bP P t1 x=some bx)
  (dK:kf P t=some false) (hs:step (bz P gl) gl (.aC d bx) st K):o.wp P a w (cy n0 gl nt w G ρ K) Q:=by
 obtain⟨e6,aw⟩:=dC ak p.rel;simp only[step]at hs;split at hs
 .rename_i i off aj;rw[aj]at aw;have gO:=aw;cases b8:a.eval x<;>rw[b8]at gO<;>cases gO;rename_i b aq;split at hs
  .rename_i cs aD;obtain⟨aE,hs⟩:=hs;have aB:off<cs.length:=axu;have fw:=ayZ;obtain⟨NI,v,ay,hV⟩:=fw.NG (d:=d) (off:=off) axt axt aB;have au:da w G w (cZ (fc (.dx i off) (.slot d)) G):=jD _;have hid:∀L',L'≠.dx i off->eV L' L' w G w (cZ (fc (.dx i off) (.slot d)) G):=λL' bF=>ri (qd bF);have dt:bX gl w (cZ (fc (.dx i off) (.slot d)) G) ρ lam a.tmps {st with s:=st.s.set i (.box (cs.set off .undef))}:=by
    refine⟨λs=>(p.rel.aP s).bR au (λ_ _ h=>h) (λ_ _ h=>h) (hid _ axt),?_,p.rel.nb,⟨by simpa using p.rel.ob.1,?_⟩,p.rel.eI.bR au,qc p.rel.lt⟩
    .intro s dY gp;obtain⟨aR,h1,h2⟩:=p.rel.bI s dY gp;exact⟨aR,h1,dJ.bR au (λ_ _ h=>h) (hid _ axt) (λj=>hid _ axt) h2⟩
    .intro j aR ob aL cq;by_cases eQ:j=i
     .subst eQ;rw[aq]at aL;simp at aL;obtain rfl:b=aR:=axs;have ad9:j<st.s.length:=axv;simp[aAq ad9,azJ]at cq;subst cq;exact NI
     .simp[aAm (azZ eQ)]at cq;exact(p.rel.ob.2 j aR ob aL cq).bR au (λ_ _ h=>h) (hid _ axt) (λk=>hid _ axu)
   refine fP (v:=v) ?_ (nF dt p.eC p.sz bp (qe p.rel.lt axt axt) (λ_ _ h=>h) aY (.lb hV) hs);simp_all[execOp,NH]
  .exact hs.elim
 .exact hs.elim
def aCk:=@List.foldl_cons
def aAN:=@List.length_set
def azL:=@cond_true
theorem ad'{d t f n t1:Nat}{ah:Bool}{x:Operand}{bx:O}{fs:Array Field}{gN:Field}(p:bV n0 gl nt w G ρ lam a st)(aY:o.dst=some d)(bp:d<nt)(bu:o.op=.field t x f)(ak:bP P t1 x=some bx)
  (hu:P.underlying t=some (.struct fs)) (bm:fs[f]?=some gN) (aQ:dp P gN.type=some n) (dK:kf P gN.type=some ah) (jX:ah=false->n=1)
  (hs:step (bz P gl) gl (.fd d bx gN.offset n ah) st K):o.wp P a w (cy n0 gl nt w G ρ K) Q:=by
 obtain⟨e6,h1⟩:=dC ak p.rel;obtain⟨aE,hs⟩:=hs;simp only[azH]at aE;obtain⟨iw,az⟩:=aE;have az:=azW az;have Hw:∃vs,a.eval x=.agg ⟨vs⟩/\cf w G ρ vs (cellsOf (aK gl st bx)):=by
  cases he:aK gl st bx<;>rw[he]at h1 iw<;>simp[vN]at iw;case agg cs=>
   have cc:=h1;cases hv:a.eval x<;>rw[hv]at cc<;>cases cc;rename_i vs h;exact⟨vs,rfl,h⟩
  case d y=>
   cases y<;>simp at iw;have cc:=h1.iq;cases hv:a.eval x<;>rw[hv]at cc<;>cases cc;rename_i vs h;exact⟨vs,rfl,h.Dx⟩
 obtain⟨vs,hv,bF⟩:=Hw;have aH:=bF.length;cases ah with
 |true=>
  refine p.value aY bp (v:=.agg ((⟨vs⟩:Array Value).extract gN.offset (gN.offset+n))) ?_ (.ck (x:=valOf (cellsOf (aK gl st bx)) gN.offset n true) ?_) hs
  .simp[execOp,bu,hv,Instr.field,azP,eB hu,azS,bm,asAgg,azU,part,vX dK,if_true,jE aQ]
  .have:(⟨vs⟩:Array Value).extract gN.offset (gN.offset+n)=⟨(vs.drop gN.offset).take n⟩:=by
    simp
   rw[this];exact Dy (LC:=λ_=>.res) axv λj v y av aZ=>.ck (((bF.drop _).take _).get av aZ)
 |false=>
  obtain rfl:=jX rfl;have aB:gN.offset<vs.length:=axs;have aE:(⟨vs⟩:Array Value)[gN.offset]?=some vs[gN.offset]:=axt;refine p.value aY bp (v:=vs[gN.offset]) ?_ (.ck (x:=valOf (cellsOf (aK gl st bx)) gN.offset 1 false) ?_) hs
  .simp only[execOp,bu,hv,Instr.field,azP,eB hu,azS,bm,asAgg,azU,part,vX dK,aAw,az4,aE]
  .have kO:(cellsOf (aK gl st bx))[gN.offset]?=some ((cellsOf (aK gl st bx)).getD gN.offset .undef):=by grind
   have aw:=bF.get (azQ aB) kO;exact(dr.ck (L:=.res) aw).snap
theorem aea:∀{us:List Value} {xs:List ag} {off:Nat} {vs:List Value} {cs:List ag},cf w G ρ us xs->cf w G ρ vs cs->
  ∃qk,cf w G ρ qk (putCells cs off xs)/\qk=(us.zipIdx.foldl (λ(c:Array Value) (p:Value×Nat)=>c.setIfInBounds (off+p.2) p.1) ⟨vs⟩).toList:=by
 intro us;suffices h:∀(us:List Value) (k:Nat) (xs:List ag) (off:Nat) (vs:List Value) (cs:List ag),cf w G ρ us xs->cf w G ρ vs cs->
   cf w G ρ (((us.zipIdx k).foldl (λ(c:Array Value) (p:Value×Nat)=>c.setIfInBounds (off+p.2) p.1) ⟨vs⟩).toList) (putCells cs (off+k) xs)from
  λ{xs off vs cs} h1 h2=>⟨_,by simpa using h us 0 xs off vs cs h1 h2,rfl⟩
 intro us;induction us with
 |nil=>intro k xs off vs cs h1 h2;cases h1;simp_all[putCells]
 |cons u us ih=>
  intro k xs off vs cs h1 h2;cases h1 with
  |cons _ x _ xs ak iL=>
   simp[List.zipIdx_cons,aCk,putCells];have av:cf w G ρ (vs.set (off+k) u) (cs.set (off+k) x):=by
    refine .mk (by simp[h2.length]) λj v y hv hy=> ?_;by_cases aL:j=off+k
    .grind
    .grind[cf.get]
   have aZ:=ih (k+1) xs off (vs.set (off+k) u) (cs.set (off+k) x) iL av;grind
theorem aeb:∀{xs:List ag} {off:Nat} {cs:List ag},(putCells cs off xs).length=cs.length
 |[],_,_=>rfl
 |x::xs,off,cs=>by simp[putCells,aeb,aAN]
theorem NJ{place:Nat->Option (Nat×Nat)}(p:bV n0 gl nt w G ρ lam a st):∀{ps:List (Nat×Operand)} {dL:List (Nat×Nat×O)} {cs dY:List ag} {vs:List Value},
  hD (λ(q:Nat×Operand) (r:Nat×Nat×O)=>place q.1=some (r.1,r.2.1)/\∃t,bP P t q.2=some r.2.2) ps dL->cf w G ρ vs cs->oY gl st cs dL=some dY->
  ∃qk,Instr.fill place ⟨vs⟩ (ps.map λq=>(q.1,a.eval q.2))=some ⟨qk⟩/\cf w G ρ qk dY
 |[],_,cs,dY,vs,h,aw,bm=>by
  cases h;simp[oY,azJ]at bm;subst bm;exact⟨vs,rfl,aw⟩
 |(i,x)::ps,_,cs,dY,vs,h,aw,bm=>by
  cases h with
  |cons aT h=>
   rename_i r dL;obtain⟨off,n,bx⟩:=r;obtain⟨lM,t,ak⟩:=aT;simp[oY]at bm;cases aE:(Nat.beq (cellsOf (cE (snap (aK gl st bx)))).length n&&Nat.ble (off+n) cs.length&&(cellsOf (cE (snap (aK gl st bx)))).all (dU depth))with
   |false=>simp_all
   |true=>
    simp[aE,azL]at bm;simp only[azH]at aE;obtain⟨⟨lg,ff⟩,mj⟩:=aE;have lg:=azR lg;have ff:=azW ff;have ew:=(vV (L:=.res) ak p.rel).cE (L':=.res);have hA:dc w G ρ (a.eval x) (cE (snap (aK gl st bx))):=by
     rcases ew.cases with h|⟨ek,o',b,e,_,_⟩
     all_goals grind[Hc,Hd,cellsOf,dU,dr.cases]
    have bF:=hA.cells mj;obtain⟨o7,uw,aj⟩:=aea (off:=off) bF aw;obtain⟨qk,h2,av⟩:=NJ p h uw bm;refine⟨qk,?_,av⟩;simp only[aAh,Instr.fill,lM];have cm:(a.eval x).cells.size=n:=by grind[Array.length_toList,cf.length]
    have om:=aw.length;have yl:((a.eval x).cells.size≠n||off+(a.eval x).cells.size>(⟨vs⟩:Array Value).size)=false:=axu;rw[aAc axu];rw[<-h2,aj,<-Array.foldl_toList];simp
def aAZ:=@List.getElem?_toArray
theorem axV(h:p:=by rw[b8];rfl):p:=h
theorem ayq(h:p:=by rw[b8];exact heq _):p:=h
theorem ayB(h:p:=by simp[Op.equalIn,eB hu]):p:=h
theorem ru{α β:Type}{f:α->Option β}:∀{l:List α} {bC:List β},l.mapM f=some bC->hD (λx y=>f x=some y) l bC
 |[],bC,h=>by simp at h;subst h;exact .nil
 |x::l,bC,h=>by
  cases ak:f x with
  |none=>simp[ak]at h
  |some y=>
   cases aH:l.mapM f with
   |none=>simp[ak,aH]at h
   |some ys=>
    simp[ak,aH]at h;subst h;exact .cons ak (ru aH)
theorem mapM_some{α β:Type}{f:α->Option β}:∀{l:List α},(∀x,x∈l->∃y,f x=some y)->∃bC,l.mapM f=some bC
 |[],_=>⟨[],rfl⟩
 |x::l,h=>by
  obtain⟨y,hy⟩:=h x axt;obtain⟨bC,aH⟩:=mapM_some (l:=l) λz aQ=>h z axv;simp_all
theorem Hx{α β:Type}{f:α->Option β}:∀{l:List α} {bC:List β} {i:Nat} {x:α},l.mapM f=some bC->l[i]?=some x->∃y,bC[i]?=some y/\f x=some y
 |[],_,_,_,_,h=>axv
 |z::l,bC,i,x,h,hi=>by
  cases ak:f z with
  |none=>simp_all
  |some y=>
   cases aH:l.mapM f with
   |none=>simp_all
   |some ys=>
    simp[ak,aH]at h;subst h;cases i with
    |zero=>simp_all
    |succ i=>
     obtain⟨y',h1,h2⟩:=Hx aH hi;simp_all
theorem hD.imp{α β:Type}{R S:α->β->Prop}(hi:∀x y,R x y->S x y):∀{l:List α} {bC:List β},hD R l bC->hD S l bC
 |_,_,.nil=>.nil
 |_,_,.cons h t=>.cons (hi _ _ h) (t.imp hi)
theorem info_of_underlying{t:Nat}{d:TypeDesc}(h:P.underlying t=some d):∃i,P.info? t=some i:=by
 grind[Program.underlying]
theorem NK{n t:Nat}{z:List ag}(h:od P n t=some z):∃i,P.info? t=some i:=by
 cases n with
 |zero=>grind[od]
 |succ n=>
  grind[od,info_of_underlying]
theorem aec{t:Nat}{z:List ag}(h:zeros P t=some z):od P 20 t=some z:=by
 unfold zeros at h;cases h1:od P 20 t with
 |none=>simp_all
 |some cs=>
  cases h2:P.info? t with
  |none=>simp_all
  |some i=>
   cases av:i.zero with
   |none=>simp_all
   |some v=>
    simp_all
theorem aed{t:Nat}{z:List ag}{i:TypeInfo}{v:Value}(aQ:zeros P t=some z)(hi:P.info? t=some i)(hv:i.zero=some v){ps:List (Nat×Value)}{cs:Array Value}
  (bm:Instr.fill (partOf P t) v.cells ps=some cs) (ev:∃d,P.underlying t=some d/\d.isRow=true):P.built t ps=some cs:=by
 obtain⟨d,hu,a6⟩:=ev;have Hy:=aec aQ;cases d with
 |struct fs=>
  have gP:∃places,fs.toList.mapM (λf=>(P.info? f.type).map λi=>(f.offset,i.size))=some places:=by
   unfold od at Hy;cases hm:fs.toList.mapM λf=>od P 19 f.type with
   |none=>simp_all
   |some l=>
    refine mapM_some λf bm=> ?_;obtain⟨j,aL⟩:=List.getElem?_of_mem bm;obtain⟨y,_,hy⟩:=Hx hm aL;obtain⟨ii,ql⟩:=NK hy;simp_all
  obtain⟨places,hp⟩:=gP;unfold Program.built;have lM:(λx=>places.toArray[x]?)=partOf P t:=by
   funext k;unfold partOf;cases au:fs[k]? with
   |none=>
    have:places.length=fs.toList.length:=by
     have:=ru hp;clear hp;generalize fs.toList=l at this;induction this with
     |nil=>rfl
     |cons _ _ ih=>grind
    simp_all
   |some f=>
    have aee:fs.toList[k]?=some f:=axu;obtain⟨y,h1,h2⟩:=Hx hp aee;simp[aAZ,h1,dp];cases ql:P.info? f.type with
    |none=>simp_all
    |some ii=>simp_all
  simp_all
 |array n e=>
  have rv:=by
   unfold od at Hy;simp at Hy;cases hm:od P 19 e with
   |none=>simp_all
   |some l=>exact NK hm
  obtain⟨NL,rv⟩:=rv;unfold Program.built;simp;have lM:(λx=>some (x*NL.size,NL.size))=partOf P t:=by
   grind[partOf,dp]
  simp_all
 |_=>simp_all
theorem aef{d t:Nat}{z:List ag}{ps:Array (Nat×Operand)}{dL:List (Nat×Nat×O)}(p:bV n0 gl nt w G ρ lam a st)(aY:o.dst=some d)(bp:d<nt)(bu:o.op=.build t ps)(aQ:zeros P t=some z)
  (ev:∃d,P.underlying t=some d/\d.isRow=true)
  (aT:hD (λ(q:Nat×Operand) (r:Nat×Nat×O)=>partOf P t q.1=some (r.1,r.2.1)/\∃t,bP P t q.2=some r.2.2) ps.toList dL)
  (hs:step (bz P gl) gl (.vJ d z dL) st K):o.wp P a w (cy n0 gl nt w G ρ K) Q:=by
 obtain⟨i,v,h1,h2,av,aZ,bW⟩:=nG aQ;simp[step]at hs;split at hs
 .rename_i cs bm;obtain⟨qk,aj,aD⟩:=NJ p aT bW bm;have aq:P.built t (ps.map λq=>(q.1,a.eval q.2)).toList=some ⟨qk⟩:=by
   simp_all[aed]
  refine p.value aY bp (v:=.agg ⟨qk⟩) ?_ (.ck (.agg _ _ aD)) hs;grind[execOp,Sem.run_bind,run_build,Result.andThen_ok,Sem.run_pure]
 .exact hs.elim
theorem AL{xs:List Operand}{ys:List O}(p:bV n0 gl nt w G ρ lam a st)(h:hD (λx y=>∃t,bP P t x=some y) xs ys)(az:(ys.map λx=>cE (snap (aK gl st x))).all (dU depth)=true):
  cf w G ρ (xs.map a.eval) (ys.map λx=>cE (snap (aK gl st x))):=by
 induction h with
 |nil=>exact .nil
 |@cons x y xs ys ak _ ih=>
  obtain⟨t,ak⟩:=ak;simp only[aAh,aBt,azH]at az⊢;refine .cons _ _ _ _ ?_ (ih az.2);have ew:=(vV (L:=.res) ak p.rel).cE (L':=.res);rcases ew.cases with h|⟨ek,o',b,e,_,_⟩
  all_goals grind[Hc,Hd,dU,dr.cases]
theorem aeg{d f:Nat}{xs cs:Array Operand}{ys zs:List O}(p:bV n0 gl nt w G ρ lam a st)(aY:o.dst=some d)(bp:d<nt)(bu:o.op=.makeFunc (.func f) xs cs)
  (ak:hD (λx y=>∃t,bP P t x=some y) xs.toList ys) (ay:hD (λx y=>∃t,bP P t x=some y) cs.toList zs)
  (hs:step (bz P gl) gl (.vL d f ys zs) st K):o.wp P a w (cy n0 gl nt w G ρ K) Q:=by
 have aw:(execOp a.eval o).run P w=.ok (.value (.func (.func f) (xs.map a.eval) (cs.map a.eval))) w:=by
  simp_all[execOp,Instr.makeFunc]
 simp only[step]at hs;split at hs
 .have aj:xs= #[]:=by cases aH:xs.toList with|nil=>simp_all|cons q dL=>rw[aH]at ak;cases ak
  have aD:cs= #[]:=by cases aH:cs.toList with|nil=>simp_all|cons q dL=>rw[aH]at ay;cases ay
  rw[aj,aD,Array.map_empty]at aw;exact p.value aY bp aw (.ck (.d _ _ (.fn f))) hs
 .obtain⟨aE,hs⟩:=hs;simp only[azH]at aE;refine p.value aY bp aw (.ck ?_) hs;have h1:=AL p ak aE.1;have h2:=AL p ay aE.2;have aj:xs.map a.eval=⟨xs.toList.map a.eval⟩:=axv;have aD:cs.map a.eval=⟨cs.toList.map a.eval⟩:=axv;rw[aj,aD];exact .func _ _ _ _ _ h1 h2
theorem de.vO{v:Value}{x:ag}{sz:Nat}{l:List D}{L:Loc}(h:de w G ρ lam L v x)(aH:vO x=some (sz,l)):∃cx n cap,v=.slice cx n cap/\(l≠[]->cx≠none):=by
 unfold aJ.vO at aH;split at aH
 .rename_i i off len cap sz;have cG:=h;cases cG;simp
 all_goals first
  |(simp at aH;done)
  |(obtain⟨rfl,rfl⟩:=aH
    obtain⟨cx,cap,v1,_,jV⟩:=(h.gK rfl).slice;grind)
theorem aeh{d:Nat}{x z:Operand}{bx:O}{t u t1 hk:Nat}{neg:Bool}{desc:TypeDesc}(p:bV n0 gl nt w G ρ lam a st)(aY:o.dst=some d)(bp:d<nt)
  (bu:o.op=.binOp (if neg then .neq else .eql) t x z u) (ak:bP P t1 x=some bx) (hu:P.underlying t=some desc) (au:x3 desc z=some hk)
  (hs:step (bz P gl) gl (.mb d neg hk bx) st K):o.wp P a w (cy n0 gl nt w G ρ K) Q:=by
 obtain⟨e6,h1⟩:=dC ak p.rel;have fin:∀(b:Bool) (ec:Value),a.eval z=ec->(ec=.slice none 0 0\/ec=.map none\/ec=.nilFunc\/ec=.pointer none)->(Op.equal t (a.eval x) ec).run P w=.ok b w->(a.eval x).oneCell'=true->a.eval x≠.nilIface->(∀k n,a.eval x≠.int k n)->(∀s,a.eval x≠.string s)->
   K (st.set d (.d (.bool (cond neg (!b) b))))->o.wp P a w (cy n0 gl nt w G ρ K) Q:=by
  intro b ec nI aQ aq h2 av aZ bW ao;refine p.value aY bp (v:=.bool (cond neg (!b) b)) ?_ (.ck (.d _ _ (.bool _))) ao;have aE:=Hj (P:=P) (w:=w) (op:=if neg then .neq else .eql) (t:=t) (x:=x) (y:=z) (v:=ec) h2 av;have key:binOp .eql t (a.eval x) ec=(Op.equal t (a.eval x) ec>>= λb=>pure (.bool b))/\binOp .neq t (a.eval x) ec=(Op.equal t (a.eval x) ec>>= λb=>pure (.bool (!b))):=by
   rcases aQ with rfl|rfl|rfl|rfl<;>(cases hv:a.eval x with
    |int k n=>simp_all
    |string s=>simp_all
    |_=>exact⟨rfl,rfl⟩)
  cases neg
  .simp_all[execOp]
  simp_all[execOp]
 have aei:∀{q:Prop},(cond neg (!false) false=neg):=λ{_}=>axt;have atx:∀{q:Prop},(cond neg (!true) true=!neg):=λ{_}=>axt;unfold x3 at au;split at au
 ·
  simp at au;subst au;simp[step]at hs;have heq:∀(cx:Option Addr) (n c:Nat),(Op.equal t (.slice cx n c) (.slice none 0 0)).run P w=.ok cx.isNone w:=by
   intro cx n c;have:∀k,(Op.equalIn (k+1) t (.slice cx n c) (.slice none 0 0)).run P w=.ok cx.isNone w:=λk=>by
    cases cx<;>simp[Op.equalIn,eB hu]
   exact this 9999
  split at hs
  .rename_i sz q dL aj;obtain⟨cx,n,cap,v1,jV⟩:=h1.vO aj;obtain⟨cx,rfl⟩:=Option.ne_none_iff_exists'.1 (jV axt);exact fin false _ rfl (.inl rfl) (by rw[v1];exact heq _ _ _) (by rw[v1];rfl) axu axu axu axu
  .rename_i sz aj;obtain⟨cx,n,cap,v1,jV⟩:=h1.vO aj;cases az:cx.isNone with
   |true=>exact fin true _ rfl (.inl rfl) (by rw[v1,<-az];exact heq _ _ _) (by rw[v1];rfl) axu axu axu (by exact hs.2)
   |false=>exact fin false _ rfl (.inl rfl) (by rw[v1,<-az];exact heq _ _ _) (by rw[v1];rfl) axu axu axu (by rw[aei (q:=True)];exact hs.1)
  .exact hs.elim
 .simp at au;subst au;simp[step]at hs;have heq:∀(r:Option Nat),(Op.equal t (.map r) (.map none)).run P w=.ok r.isNone w:=by
   intro r;have:∀k,(Op.equalIn (k+1) t (.map r) (.map none)).run P w=.ok r.isNone w:=λk=>by
    cases r<;>simp[Op.equalIn,eB hu]
   exact this 9999
  split at hs
  .rename_i i aj;rw[aj]at h1;have cc:=h1;cases b8:a.eval x<;>rw[b8]at cc<;>cases cc;exact fin false _ rfl (.inr (.inl rfl)) ayq axV axu axu axu axu
  .rename_i aj;rw[aj]at h1;have cc:=h1.iq;cases b8:a.eval x<;>rw[b8]at cc<;>cases cc;exact fin true _ rfl (.inr (.inl rfl)) ayq axV axu axu axu axu
  .exact hs.elim
 .simp at au;subst au;simp[step]at hs;have heq:∀(fn:Fn) (b c:Array Value),(Op.equal t (.func fn b c) .nilFunc).run P w=.ok false w:=by
   intro fn b c;have:∀k,(Op.equalIn (k+1) t (.func fn b c) .nilFunc).run P w=.ok false w:=λk=>ayB;exact this 9999
  have aej:=by
   have:∀k,(Op.equalIn (k+1) t .nilFunc .nilFunc).run P w=.ok true w:=λk=>ayB;exact this 9999
  split at hs
  .rename_i f fj cs aj;rw[aj]at h1;have cc:=h1;cases b8:a.eval x<;>rw[b8]at cc<;>cases cc;exact fin false _ rfl (.inr (.inr (.inl rfl))) (by rw[b8];exact heq _ _ _) axV axu axu axu axu
  .rename_i f aj;rw[aj]at h1;have cc:=h1.iq;cases b8:a.eval x<;>rw[b8]at cc<;>cases cc;exact fin false _ rfl (.inr (.inr (.inl rfl))) (by rw[b8];exact heq _ _ _) axV axu axu axu axu
  .rename_i aj;rw[aj]at h1;have cc:=h1.iq;cases b8:a.eval x<;>rw[b8]at cc<;>cases cc;exact fin true _ rfl (.inr (.inr (.inl rfl))) (by rw[b8];exact aej) axV axu axu axu axu
  .exact hs.elim
 .simp at au;subst au;simp[step]at hs;have heq:∀(r:Option Addr),(Op.equal t (.pointer r) (.pointer none)).run P w=.ok r.isNone w:=by
   intro r;have:∀k,(Op.equalIn (k+1) t (.pointer r) (.pointer none)).run P w=.ok r.isNone w:=λk=>by
    cases r<;>simp[Op.equalIn,eB hu]
   exact this 9999
  split at hs
  .rename_i i off aj;rw[aj]at h1;have cc:=h1;cases b8:a.eval x<;>rw[b8]at cc<;>cases cc;exact fin false _ rfl (.inr (.inr (.inr rfl))) ayq axV axu axu axu axu
  .rename_i cs off aj;rw[aj]at h1;have cc:=h1.iq;cases b8:a.eval x<;>rw[b8]at cc<;>cases cc;exact fin false _ rfl (.inr (.inr (.inr rfl))) ayq axV axu axu axu axu
  .rename_i aj;rw[aj]at h1;have cc:=h1.iq;cases b8:a.eval x<;>rw[b8]at cc<;>cases cc;exact fin true _ rfl (.inr (.inr (.inr rfl))) ayq axV axu axu axu axu
  .exact hs.elim
 .simp at au;subst au;simp[step]at hs;have aQ:a.eval (.const .nilIface)=.nilIface:=rfl;have aty:∀(b:Bool),(Op.equal t (a.eval x) .nilIface).run P w=.ok b w->(a.eval x=.nilIface\/∃t v,a.eval x=.iface t v)->K (st.set d (.d (.bool (cond neg (!b) b))))->o.wp P a w (cy n0 gl nt w G ρ K) Q:=by
   intro b aq ay ao;refine p.value aY bp (v:=.bool (cond neg (!b) b)) ?_ (.ck (.d _ _ (.bool _))) ao;have aE:(eqGuard (if neg then .neq else .eql) t x (.const .nilIface) (a.eval x) .nilIface).run P w=.ok () w:=by
    rcases ay with ay|⟨t2,v2,ay⟩
    all_goals simp_all[eqGuard]
   have key:binOp .eql t (a.eval x) .nilIface=(Op.equal t (a.eval x) .nilIface>>= λb=>pure (.bool b))/\binOp .neq t (a.eval x) .nilIface=(Op.equal t (a.eval x) .nilIface>>= λb=>pure (.bool (!b))):=by
    rcases ay with ay|⟨t2,v2,ay⟩<;>rw[ay]<;>exact⟨rfl,rfl⟩
   cases neg
   .simp at bu aE;simp[execOp,bu,aQ,azP,aE,azS,key.1,aq,azU,az7]
   .simp at bu aE;simp[execOp,bu,aQ,azP,aE,azS,key.2,aq,azU,azL]
  have ch:(Op.equal t .nilIface .nilIface).run P w=.ok true w:=by
   have:∀k,(Op.equalIn (k+1) t .nilIface .nilIface).run P w=.ok true w:=λk=>ayB;exact this 9999
  have aj:∀t2 v2,(Op.equal t (.iface t2 v2) .nilIface).run P w=.ok false w:=by
   intro t2 v2;have:∀k,(Op.equalIn (k+1) t (.iface t2 v2) .nilIface).run P w=.ok false w:=λk=>ayB;exact this 9999
  split at hs
  .rename_i t2 b7 ee;rw[ee]at h1;have cc:=h1.iq;generalize b8:a.eval x=v1 at cc;cases cc;simp_all
  .rename_i ee;rw[ee]at h1;have cc:=h1.iq;generalize b8:a.eval x=v1 at cc;cases cc;simp_all
  .rename_i ee;rw[ee]at h1;have cc:=h1.iq;generalize b8:a.eval x=v1 at cc;cases cc;simp_all
  .exact hs.elim
 simp_all
def aAe:=@List.mem_of_getElem?
def aBH:=@List.mem_flatMap
def aAQ:=@List.range'_succ
theorem axW(h:p:=by grind[qh,cn.length]):p:=h
theorem axX(h:p:=by grind[dp]):p:=h
theorem Rd.NM{v:Value}{d:D}(h:Rd w G v d):cn w G v.cells.toList d.cells:=by
 cases h with
 |agg vs cs h=>exact h
 |bool b=>exact .cons _ _ _ _ (.bool b) .nil
 |int k n=>exact .cons _ _ _ _ (.int k n) .nil
 |str s l h=>exact .cons _ _ _ _ (.str s l h) .nil
 |dO=>exact .cons _ _ _ _ .dO .nil
 |hj=>exact .cons _ _ _ _ .hj .nil
 |k5=>exact .cons _ _ _ _ .k5 .nil
 |ig=>exact .cons _ _ _ _ .ig .nil
 |fn f=>exact .cons _ _ _ _ (.fn f) .nil
 |iface t v x h=>exact .cons _ _ _ _ (.iface t v x h) .nil
 |kK a c s=>exact .cons _ _ _ _ (.kK a c s) .nil
 |list b off n cap sz l vs h1 h2 av aZ bW=>exact .cons _ _ _ _ (.list b off n cap sz l vs h1 h2 av aZ bW) .nil
 |eY b base off vs cs h1 h2=>exact .cons _ _ _ _ (.eY b base off vs cs h1 h2) .nil
 |hL t v=>exact .cons _ _ _ _ (.hL t v) .nil
 |k6 b sG sH kl vl ks vs h1 h2 av aZ=>exact .cons _ _ _ _ (.k6 b sG sH kl vl ks vs h1 h2 av aZ) .nil
theorem NN{vs us:List Value}{E:TypeId}{fz:Nat×Nat}{L0:Loc}{m:Nat}(hw:ga w (.cells ⟨vs++us⟩ E fz) w')(hm:vs.length=m)(h1:∀v,v∈vs->v.oneCell'=true):iK w' (fD w G L0 m) w.heap.size 0 vs:=by
 intro j v hv;have aL:j<vs.length:=axv;refine⟨?_,?_,h1 v (aAe hv)⟩
 .rw[aAy,cell_of_block hw.new];grind
 .intro L n dB;simp_all[fD,hQ]
theorem Hz{sz d:Nat}{l:List D}{vs us:List Value}{E:TypeId}{fz:Nat×Nat}{cap:Nat}(hw:ga w (.cells ⟨vs++us⟩ E fz) w')(cm:0<sz)(aH:∀x,x∈l->x.cells.length=sz)(cB:l≠[])
  (aw:cn w G vs (l.flatMap D.cells)) (hR:l.length<=cap) (ay:(vs++us).length=cap*sz) (hfz:∀j,j<(vs++us).length->¬(fz.1<=j/\j<fz.2)) (h1:∀v,v∈vs->v.oneCell'=true):
  dr w' (fD w G (.slot d) (l.length*sz)) ρ (.slot d) (.slice (some ⟨w.heap.size,0,none⟩) l.length cap) (.own sz l):=by
 obtain⟨x,l,rfl⟩:=List.exists_cons_of_ne_nil cB;have hlen:vs.length=(x::l).length*sz:=axW;exact⟨w.heap.size,0,cap,⟨vs++us⟩,E,fz,vs,rfl,hR,hw.new,hfz,axu,cm,by rw[fD,hQ,aAy],aH,NN hw hlen h1,aw.keep hw.keeps⟩
theorem Rd.DQ{v:Value}{d:D}(h:Rd w G v d)(h1:jt d=true):v.oneCell'=true:=by
 cases h<;>first|rfl|grind[jt]
theorem NP{vs:List Value}{l:List D}(h:cn w G vs (l.flatMap D.cells))(h1:∀d,d∈l->d.cells.all jt=true):∀v,v∈vs->v.oneCell'=true:=by
 intro v hv;obtain⟨j,aL,rfl⟩:=aA9 hv;have mh:j<(l.flatMap D.cells).length:=by grind[cn.length]
 have aw:=h.get (azQ aL) (azQ mh);have hm:=azT mh;obtain⟨d,a6,hm⟩:=aBH.1 hm;exact aw.DQ ((azX.1 (h1 d a6)) _ hm)
theorem AO{L0:Loc}{m d:Nat}{ob:Obj}{v:Value}{x:ag}{cL:af}(p:bV n0 gl nt w G ρ lam a st)(dt:bX gl w G ρ lam a.tmps cL)(hw:ga w ob w')(h0:L0≠.foreign)(aY:o.dst=some d)(bp:d<nt)
  (hv:de w' (fD w G L0 m) ρ lam (.slot d) v x) (ao:K (cL.set d x)):cy n0 gl nt w G ρ K (a.put o.dst v) w':=
 nF (hw.rel (L0:=L0) (n0:=m) p.rel.lt dt) p.eC p.sz bp (hw.good p.rel.lt h0) (λ_ _ h=>h) aY hv ao
theorem NQ{sz:Nat}(p:bV n0 gl nt w G ρ lam a st):∀{xs:List Operand} {ys:List O} {l:List D},hD (λx y=>∃t,bP P t x=some y) xs ys->elems gl st sz ys=some l->
  l.length=xs.length/\(∀x,x∈l->x.cells.length=sz)/\cn w G (xs.flatMap λx=>(a.eval x).cells.toList) (l.flatMap D.cells)/\(∀x,x∈xs->(a.eval x).cells.size=sz)/\(∀d,d∈l->d.cells.all jt=true)
 |[],_,l,h,he=>by
  cases h;simp[elems,azJ]at he;subst he;exact⟨rfl,axt,.nil,axt,axt⟩
 |x::xs,_,l,h,he=>by
  cases h with
  |cons ak h=>
   rename_i y ys;obtain⟨t,ak⟩:=ak;simp[elems]at he;cases h1:hl (aK gl st y)with
   |none=>simp_all
   |some d=>
    cases h2:elems gl st sz ys with
    |none=>simp_all
    |some bC=>
     simp[h1,h2]at he;cases HA:(Nat.beq d.cells.length sz&&d.cells.all jt)with
     |false=>simp_all
     |true=>
      simp[HA,azL,azJ]at he;subst he;simp only[azH]at HA;have av:=azR HA.1;obtain⟨L,ew⟩:=dC ak p.rel;have jv:=(ew.hl h1).NM;obtain⟨aj,aD,aW,bQ,cK⟩:=NQ p h h2;refine⟨axv,?_,?_,?_,?_⟩
      .simp_all
      .grind[cn.append]
      .grind[Array.length_toList,cn.length]
      grind
theorem HB{sz:Nat}:∀(vs:List Value) (i:Nat) (pre rest:List Value),pre.length=i*sz->rest.length=vs.length*sz->(∀v,v∈vs->v.cells.size=sz)->
  Instr.fill (λi=>some (i*sz,sz)) ⟨pre++rest⟩ ((List.range' i vs.length).zip vs)=some ⟨pre++vs.flatMap λv=>v.cells.toList⟩
 |[],i,pre,rest,_,aw,_=>by
  have:rest=[]:=axu;subst this;rfl
 |v::vs,i,pre,rest,hp,aw,hs=>by
  have hv:=hs v axt;simp only[az0,aAQ,aCi,Instr.fill];have DR:sz<=rest.length:=by grind[Nat.add_mul]
  have yl:(v.cells.size≠sz||i*sz+v.cells.size>(⟨pre++rest⟩:Array Value).size)=false:=axu;have ry:v.cells.zipIdx.foldl (λ(cs:Array Value) (p:Value×Nat)=>cs.setIfInBounds (i*sz+p.2) p.1) ⟨pre++rest⟩=⟨(pre++v.cells.toList)++rest.drop sz⟩:=by
   have key:∀(us:List Value) (k:Nat) (q r:List Value),q.length=i*sz+k->us.length<=r.length->
     ((us.zipIdx k).foldl (λ(cs:Array Value) (p:Value×Nat)=>cs.setIfInBounds (i*sz+p.2) p.1) ⟨q++r⟩)=⟨(q++us)++r.drop us.length⟩:=by
    intro us;induction us with
    |nil=>simp
    |cons u us ih=>
     intro k q r aT aH;cases r with
     |nil=>simp_all
     |cons y r=>
      simp only[List.zipIdx_cons,aCk];have h1:(⟨q++y::r⟩:Array Value).setIfInBounds (i*sz+k) u=⟨(q++[u])++r⟩:=axu;rw[h1,ih (k+1) (q++[u]) r axv axu];simp
   grind[Array.toList_zipIdx]
  have:=HB vs (i+1) (pre++v.cells.toList) (rest.drop sz) axv (by grind[Nat.add_mul]) (λu hu=>hs u axv);simp_all
theorem aek{d t e n len:Nat}{ps:Array (Nat×Operand)}{ys:List O}{z:List ag}(p:bV n0 gl nt w G ρ lam a st)(aY:o.dst=some d)(bp:d<nt)(bu:o.op=.buildSlice t len ps)
  (hu:P.underlying t=some (.slice e)) (az:dp P e=some n) (gq:0<n) (aQ:zeros P e=some z) (rz:ps.toList.map (·.1)=List.range len) (nJ:len*n<=2^24)
  (aT:hD (λx y=>∃t,bP P t x=some y) (ps.toList.map (·.2)) ys)
  (hs:step (bz P gl) gl (.li d n ys) st K):o.wp P a w (cy n0 gl nt w G ρ K) Q:=by
 obtain⟨i,ec,h1,h2,av,aZ,bW⟩:=nG aQ;have dM:i.size=n:=axX;have rA:=axs;simp[step]at hs;split at hs
 .rename_i l aH;obtain⟨aj,aD,aW,bQ,cK⟩:=NQ p aT aH;have hlen:ps.toList.length=len:=by have:=congrArg List.length rz;grind
  have o8:l.length=len:=axu;have NR:ps.map (λx=>(x.1,a.eval x.2))=⟨(List.range' 0 (ps.toList.map λx=>a.eval x.2).length).zip (ps.toList.map λx=>a.eval x.2)⟩:=by
   grind[List.range_eq_range']
  have yh:∀c0:Array Value,c0.size=len*n->Instr.fill (λi=>some (i*n,n)) c0 (ps.map (λx=>(x.1,a.eval x.2))).toList=some ⟨(ps.toList.map λx=>a.eval x.2).flatMap λv=>v.cells.toList⟩:=by
   intro c0 ael;have:=HB (sz:=n) (ps.toList.map λx=>a.eval x.2) 0 [] c0.toList axt axu (λv hv=>axv);simp_all
  have aem:((ps.toList.map λx=>a.eval x.2).flatMap λv=>v.cells.toList)=(ps.toList.map (·.2)).flatMap λx=>(a.eval x).cells.toList:=by
   generalize ps.toList=q;induction q with
   |nil=>rfl
   |cons y ys ih=>grind
  have dy:(Instr.buildSlice t len (ps.map λx=>(x.1,a.eval x.2))).run P w=.ok (.slice (some ⟨w.heap.size,0,none⟩) len len) {w with heap:=w.heap.push (.cells ⟨(ps.toList.map (·.2)).flatMap λx=>(a.eval x).cells.toList⟩ e)}:=by
   have iY:¬len*n>2^24:=axs;unfold Instr.buildSlice;simp only[azP,eB hu,azS,jE az,aBg,aAc iY,azU];simp_all[newRow,rr]
  have fC:(execOp a.eval o).run P w=.ok (.value (.slice (some ⟨w.heap.size,0,none⟩) len len)) {w with heap:=w.heap.push (.cells ⟨(ps.toList.map (·.2)).flatMap λx=>(a.eval x).cells.toList⟩ e)}:=aya;have om:((ps.toList.map (·.2)).flatMap λx=>(a.eval x).cells.toList).length=len*n:=axW;have hw:ga w (.cells ⟨((ps.toList.map (·.2)).flatMap λx=>(a.eval x).cells.toList)++[]⟩ e) {w with heap:=w.heap.push (.cells ⟨(ps.toList.map (·.2)).flatMap λx=>(a.eval x).cells.toList⟩ e)}:=⟨axt,rfl,rfl⟩;refine fP fC (AO (L0:=.slot d) (m:=l.length*n) p p.rel hw axt aY bp (.lb ?_) hs);by_cases cB:l=[]
  .subst cB;subst o8;exact .ck (.nil _ _)
  .have:=Hz (ρ:=ρ) (d:=d) (cap:=len) hw gq aD cB aW axs axu axt (NP aW cK);simp_all
 .exact hs.elim
def azG:=@List.length_map
def aCl:=@Array.length_toList
def aAz:=@List.length_nil
def aA0:=@Nat.zero_mul
def aBl:=@Go.run_loadCells_list
def azY:=@List.mem_cons
theorem AP{b m:Nat}:∀{us:List Value} {k:Nat} {w:World} {c:Array Value} {E:TypeId} {fz:Nat×Nat},w.heap[b]?=some (.cells c E fz)->m+k+us.length<=c.size->
  ∃c',(w.setCells b (m+k) us).heap[b]?=some (.cells c' E fz)/\c'.size=c.size/\(∀j,j<m+k\/m+k+us.length<=j->c'[j]?=c[j]?)/\(∀j v,us[j]?=some v->c'[m+k+j]?=some v)/\
   (∀cg,cg≠b->(w.setCells b (m+k) us).heap[cg]?=w.heap[cg]?)/\(w.setCells b (m+k) us).heap.size=w.heap.size
 |[],k,w,c,E,fz,h,aH=>⟨c,h,rfl,λ_ _=>rfl,λj v hv=>axu,λ_ _=>rfl,rfl⟩
 |u::us,k,w,c,E,fz,h,aH=>by
  have h1:=Hq (off:=m+k) (u:=u) h;obtain⟨c',aj,aD,aW,bQ,cK,dQ⟩:=AP (b:=b) (m:=m) (us:=us) (k:=k+1) h1 axv;refine⟨c',aj,axu,?_,?_,?_,?_⟩
  .grind[Array.getElem?_setIfInBounds_ne]
  .intro j v hv;cases j with
   |zero=>
    grind
   |succ j=>
    grind
  .intro cg eW;have:=cK cg eW;exact this.trans (yk eW)
  .have:=dQ;exact this.trans Hr
theorem oo{b:Nat}:∀{us:List Value} {k:Nat} {w:World},(w.setCells b k us).os=w.os/\(w.setCells b k us).output=w.output
 |[],_,_=>⟨rfl,rfl⟩
 |u::us,k,w=>by
  have h:=oo (b:=b) (us:=us) (k:=k+1) (w:=w.setCell ⟨b,k,none⟩ u);exact⟨h.1.trans rfl,h.2.trans rfl⟩
theorem DS{b m m':Nat}{L L':Loc}{c c':Array Value}{E:TypeId}{fz:Nat×Nat}(dB:G b=some (L,m))(hm:m<=m')(hold:w.heap[b]?=some (.cells c E fz))(jg:w'.heap[b]?=some (.cells c' E fz))
  (DT:∀j,j<m->c'[j]?=c[j]?) (gQ:c.size<=c'.size) (wi:∀cg,cg≠b->w'.heap[cg]?=w.heap[cg]?) (wj:w'.heap.size=w.heap.size) (aB:∀b L n,G b=some (L,n)->b<w.heap.size) (bF:L≠.foreign) (atz:L'≠.foreign) (aen:w'.os=w.os) (e8:w'.output=w.output):
  da w G w' (cW G b (some (L',m')))/\(∀e6,e6≠L->eV e6 e6 w G w' (cW G b (some (L',m'))))/\Good w G w' (cW G b (some (L',m')))/\(∀bO L n,cW G b (some (L',m')) bO=some (L,n)->bO<w'.heap.size):=by
 have au:da w G w' (cW G b (some (L',m'))):=by
  refine⟨?_,λaR o h=> ?_,λaR n h=> ?_⟩;rotate_left 2
  .obtain⟨c2,uz,qm,h2,av⟩:=h;by_cases aq:aR=b
   .subst aq;rw[hold]at h2;simp at h2;obtain⟨rfl,rfl,rfl⟩:=h2;exact⟨c',E,fz,jg,aAs av gQ⟩
   .exact⟨c2,uz,qm,(wi _ aq).trans h2,av⟩
  rotate_left
  .obtain⟨h1,av,h2⟩:=h;have aq:aR≠b:=axv;exact⟨by grind[mT],av,(wi _ aq).trans h2⟩
  intro aR off v h;by_cases aq:aR=b
  .subst aq;have DE:=h.2.1 _ _ dB;refine⟨?_,?_,h.2.2⟩
   .rw[cell_of_block jg,DT _ DE,<-cell_of_block hold];exact h.1
   .intro iX jF h2;grind[hQ]
  .refine⟨by rw[yj (wi _ aq)];exact h.1,?_,h.2.2⟩;intro iX jF h2;rw[mT _ _ aq]at h2;exact h.2.1 _ _ h2
 have hs:∀e6,e6≠L->eV e6 e6 w G w' (cW G b (some (L',m'))):=by
  intro e6 h1 aR n h2;have aq:aR≠b:=axv;grind[mT]
 refine⟨au,hs,⟨axs,?_,?_,?_,au,aen,e8⟩,?_⟩
 .intro aR dP h2;have aq:aR≠b:=axv;grind[mT]
 .intro aR n dP h2;by_cases aq:aR=b
  .simp_all
  .rw[mT _ _ aq]at h2;grind
 .intro aR n dP h2;by_cases aq:aR=b
  .subst aq;rw[hQ]at h2;simp_all
  grind[mT]
 grind[mT]
theorem iK.one{b off:Nat}{vs:List Value}(h:iK w G b off vs):∀u,u∈vs->u.oneCell'=true:=by
 intro u hu;obtain⟨j,aL,rfl⟩:=aA9 hu;exact(h j _ (azQ aL)).2.2
theorem NS(n:Nat):∀(r c:Nat),c<=n+(n+768)/4->Builtin.growBy n r c<=n+(n+768)/4
 |0,c,h=>h
 |r+1,c,h=>by
  unfold Builtin.growBy;split
  .exact h
  .refine NS n r _ ?_;rename_i ay;have:c+(c+768)/4<=n+(n+768)/4:=axs;exact this
theorem nextslicecap_le{need old:Nat}(h:old<need):Builtin.nextslicecap need old<=2*need:=by
 grind[Builtin.nextslicecap,NS]
theorem aeo{v:Value}{x:ag}{sz:Nat}{l:List D}{L:Loc}(h:de w G ρ lam L v x)(aH:sx x=some (sz,l))(cm:0<sz):
  ∃us:List Value,(Builtin.lenOf v).run P w=.ok l.length w/\(Builtin.firstCells sz l.length v).run P w=.ok ⟨us⟩ w/\cn w G us (l.flatMap D.cells)/\(∀u,u∈us->u.oneCell'=true)/\(l≠[]->∀d,d∈l->d.cells.length=sz)/\
   ∀{bS:World},(∀b off u,Cell w G b off u->bS.cell? ⟨b,off,none⟩=some u)->(Builtin.firstCells sz l.length v).run P bS=.ok ⟨us⟩ bS:=by
 by_cases hs:∃s,x=.d (.str s)
 .obtain⟨s,rfl⟩:=hs;obtain⟨rfl,rfl⟩:=aH;obtain⟨s1,rfl,rfl⟩:=h.str;have aq:∀bS:World,(Builtin.firstCells 1 (s1.data.toList.map gj).length (.string s1)).run P bS=.ok ⟨s1.data.toList.map λb=>.int .u8 b.toNat⟩ bS:=by
   intro bS;simp only[Builtin.firstCells,azG,aCl,azU];have:(s1.extract 0 s1.data.size).data=s1.data:=axt;congr 1;grind
  refine⟨_,?_,aq w,?_,?_,?_,λ_=>aq _⟩
  .simp_all[Builtin.lenOf]
  .have:(s1.data.toList.map gj).flatMap D.cells=s1.data.toList.map gj:=by
    generalize s1.data.toList=q;induction q with
    |nil=>rfl
    |cons y ys ih=>simp[aAh,aAX,ih];rfl
   generalize s1.data.toList=q;induction q with
   |nil=>exact .nil
   |cons y ys ih=>exact .cons _ _ _ _ (.int _ _) ih
  .intro u hu;simp at hu;obtain⟨y,_,rfl⟩:=hu;rfl
  .intro _ d a6;simp at a6;obtain⟨y,_,rfl⟩:=a6;rfl
 .have sP:gK x=some (sz,l):=by
   cases x with
   |d y=>cases y<;>first|exact aH|simp_all|simp[sx]at aH
   |own=>exact aH
   |gE=>exact aH
   |_=>grind[sx]
  obtain⟨cx,cap,rfl,hR,jV⟩:=(h.gK sP).slice;by_cases cB:l=[]
  .subst cB;refine⟨[],rfl,?_,.nil,axt,axt,λ_=> ?_⟩
   .cases cx with
    |none=>rfl
    |some cx=>simp[Builtin.firstCells,aAz,aA0];rfl
   .cases cx with
    |none=>rfl
    |some cx=>simp[Builtin.firstCells,aAz,aA0];rfl
  .obtain⟨b,off,vs,rfl,hw,ay,aw⟩:=jV cB;have om:vs.length=l.length*sz:=axW;have rB:∀{bS:World},(∀b off u,Cell w G b off u->bS.cell? ⟨b,off,none⟩=some u)->(Builtin.firstCells sz l.length (.slice (some ⟨b,off,none⟩) l.length cap)).run P bS=.ok ⟨vs⟩ bS:=by
    intro bS h2;simp[Builtin.firstCells];rw[<-om];exact aBl (P:=P) bS ⟨b,off,none⟩ vs (λj v hv=>by rw[aAC];exact h2 _ _ _ (ay j v hv))
   exact⟨vs,rfl,rB (λ_ _ _ h=>h.1),aw,ay.one,λ_=>hw,λh2=>rB h2⟩
def wk(P:Program)(w:World)(v:Value)(sz k:Nat)(us:List Value):Prop:=
 (Builtin.lenOf v).run P w=.ok k w/\(∀bS:World,bS.heap=w.heap->(Builtin.firstCells sz k v).run P bS=.ok ⟨us⟩ bS)/\(∀u,u∈us->u.oneCell'=true)/\us.length=k*sz
theorem DU{bS:World}(h:bS.heap=w.heap)(a:Addr):bS.cell? a=w.cell? a:=ayo
theorem HC{v:Value}{x:ag}{sz:Nat}{l:List D}{L:Loc}(h:de w G ρ lam L v x)(aH:sx x=some (sz,l))(cm:0<sz):
  ∃us:List Value,wk P w v sz l.length us/\cn w G us (l.flatMap D.cells)/\∀d,d∈l->d.cells.length=sz:=by
 obtain⟨us,h1,h2,av,aZ,bW,dh⟩:=aeo (P:=P) h aH cm;have a6:∀d,d∈l->d.cells.length=sz:=by
  intro d a6;exact bW axv d a6
 refine⟨us,⟨h1,λbS hw=>dh λb off u ay=> ?_,aZ,axW⟩,av,a6⟩;rw[DU hw];exact ay.1
theorem NT{i off len _cap sz b:Nat}{v:Value}{cs:List ag}(hv:∃et,v=.slice (some ⟨b,off,none⟩) len et)(aq:dJ w G ρ b (.obj i) (.dx i) cs)(az:off+len*sz<=cs.length)(h1:∀(us:List Value),us.length=len*sz->
   (∀j v x,us[j]?=some v->((cs.drop off).take (len*sz))[j]?=some x->dr w G ρ (.dx i (off+j)) v x)->∀u,u∈us->u.oneCell'=true):
  ∃us:List Value,wk P w v sz len us/\∀j v x,us[j]?=some v->((cs.drop off).take (len*sz))[j]?=some x->dr w G ρ (.dx i (off+j)) v x:=by
 obtain⟨et,rfl⟩:=hv;obtain⟨us,aj,aD,aW⟩:=aq.range az;refine⟨us,⟨rfl,λbS hw=> ?_,h1 us aj aW,aj⟩,aW⟩;simp[Builtin.firstCells];rw[<-aj];exact aBl (P:=P) bS ⟨b,off,none⟩ us (λj v hv=>by rw[aAC,DU hw];exact aD j v hv)
theorem DV{sz:Nat}(cm:0<sz):∀(n:Nat) (l:List D),l.length=n*sz->l.all jt=true->(chunks sz n l).flatMap D.cells=l/\(chunks sz n l).length=n/\∀d,d∈chunks sz n l->d.cells.length=sz
 |0,l,h,_=>by
  grind[chunks]
 |n+1,l,h,h1=>by
  have hlen:sz<=l.length:=axv;have a6:(l.drop sz).all jt=true:=axv;obtain⟨aj,aD,aW⟩:=DV cm n (l.drop sz) axv a6;simp only[chunks];cases hs:Nat.beq sz 1 with
  |true=>
   obtain rfl:sz=1:=azR hs;cases l with
   |nil=>simp_all
   |cons x l=>
    have ak:jt x=true:=axu;have ay:x.cells=[x]:=by cases x<;>first|rfl|grind[jt]
    simp_all
  |false=>
   simp only[az7,aAX,az0,D.cells];refine⟨axu,by rw[aD],?_⟩;intro d a6;rcases azY.1 a6 with rfl|a6
   .simp_all
   .exact aW d a6
theorem DW:∀{xs:List ag} {ds:List D},jr xs=some ds->ds.length=xs.length/\∀(j:Nat) (x:ag) (d:D),xs[j]?=some x->ds[j]?=some d->Am x=some d
 |[],ds,h=>by grind[jr]
 |x::xs,ds,h=>by
  simp[jr]at h;split at h
  .rename_i d aj;split at h
   .rename_i l aD;simp at h;subst h;obtain⟨h1,h2⟩:=DW aD;refine⟨by simp[h1],λj y z hy aQ=> ?_⟩;cases j with
    |zero=>simp at hy aQ;subst hy;subst aQ;exact aj
    |succ j=>exact h2 j y z (by simpa using hy) (by simpa using aQ)
   .simp at h
  .simp at h
theorem NU{v:Value}{x:ag}{sz:Nat}{l:List D}{L:Loc}(cq:ho w G ρ st.s)(h:de w G ρ lam L v x)(aH:p6 st x=some (sz,l))(cm:0<sz):
  ∃us:List Value,wk P w v sz l.length us/\cn w G us (l.flatMap D.cells)/\∀d,d∈l->d.cells.length=sz:=by
 unfold p6 at aH;split at aH
 .rename_i i off len cap hn;have cG:=h;cases cG with
  |aS _ _ _ _ et _ b cM ay aQ=>
   have dV:=cq.at cM;split at aH
   .rename_i cs gQ;rw[gQ]at dV;cases hle:Nat.ble (off+len*hn) cs.length with
    |false=>simp_all
    |true=>
     rw[hle]at aH;split at aH
     .rename_i ds bm;cases gP:ds.all jt with
      |false=>simp_all
      |true=>
       rw[gP]at aH;simp at aH;obtain⟨rfl,rfl⟩:=aH;have hle:=azW hle;obtain⟨f1,f2⟩:=DW bm;have AQ:ds.length=len*hn:=axv;obtain⟨c1,c2,c3⟩:=DV cm len ds AQ gP;have jv:∀(us:List Value),us.length=len*hn->(∀j v x,us[j]?=some v->((cs.drop off).take (len*hn))[j]?=some x->dr w G ρ (.dx i (off+j)) v x)->cn w G us ds:=λus hu aw=>
        ya (LC:=λj=>.dx i (off+j)) (k:=0) axs (λj v x hv ak=>by rw[aAy];exact aw j v x hv ak) bm
       obtain⟨us,s1,s2⟩:=NT (P:=P) (v:=.slice (some ⟨b,off,none⟩) len et) (len:=len) (sz:=hn) (_cap:=cap) ⟨_,rfl⟩ dV hle (λus hu aw u h9=>by
        have:=jv us hu aw;obtain⟨j,aL,rfl⟩:=aA9 h9;have mh:j<ds.length:=axs;exact(this.get (azQ aL) (azQ mh)).DQ (azX.1 gP _ (azT mh)))
       refine⟨us,axv,?_,c3⟩;rw[c1];exact jv us s1.2.2.2 s2
     simp_all
   simp_all
 .exact HC h aH cm
theorem dr.gJ{v:Value}{x:ag}{L:Loc}(h:dr w G ρ L v x):dc w G ρ v (gJ x):=by
 unfold aJ.gJ;split
 .exact h
 grind[snap]
theorem AR{v:Value}{x:ag}{sz k:Nat}{us:List ag}{L:Loc}(cq:ho w G ρ st.s)(h:de w G ρ lam L v x)(aH:p5 st x sz=some (us,k))(cm:0<sz):
  ∃vs:List Value,wk P w v sz k vs/\cf w G ρ vs us:=by
 unfold p5 at aH;split at aH
 .rename_i i off len cap hn;have cG:=h;cases cG with
  |aS _ _ _ _ et _ b cM ay aQ=>
   have dV:=cq.at cM;split at aH
   .rename_i cs gQ;rw[gQ]at dV;cases hle:(Nat.beq hn sz&&Nat.ble (off+len*sz) cs.length&&(((cs.drop off).take (len*sz)).map gJ).all kc)with
    |false=>grind
    |true=>
     simp only[hle,azL,azJ,aAd]at aH;obtain⟨rfl,rfl⟩:=aH;simp only[azH]at hle;obtain⟨⟨h1,h2⟩,av⟩:=hle;have h2:=azW h2;have hA:∀(us:List Value),us.length=len*sz->(∀j v x,us[j]?=some v->((cs.drop off).take (len*sz))[j]?=some x->dr w G ρ (.dx i (off+j)) v x)->cf w G ρ us (((cs.drop off).take (len*sz)).map gJ):=by
      grind[cf.mk,dr.gJ]
     obtain⟨vs,s1,s2⟩:=NT (P:=P) (v:=.slice (some ⟨b,off,none⟩) len et) (len:=len) (sz:=sz) (_cap:=cap) ⟨_,rfl⟩ dV h2 (λus hu aw u h9=>by
      have:=hA us hu aw;obtain⟨j,aL,rfl⟩:=aA9 h9;have mh:j<(((cs.drop off).take (len*sz)).map gJ).length:=axv;have fQ:=azX.1 av _ (azT mh);simp only[kc,azH]at fQ;exact NF (this.get (azQ aL) (azQ mh)) fQ.1)
     exact⟨vs,s1,hA vs s1.2.2.2 s2⟩
   simp_all
 .split at aH
  .rename_i dw l aD;cases aq:Nat.beq dw sz with
   |false=>simp_all
   |true=>
    obtain rfl:dw=sz:=azR aq;simp at aH;obtain⟨rfl,rfl⟩:=aH;obtain⟨vs,h1,h2,av⟩:=HC (P:=P) h aD cm;grind[cn.Dx]
  simp_all
def aBI:=@List.getElem?_cons_zero
def aBm:=@List.getElem?_cons_succ
def aCm:=@Bool.not_false
def aB1:=@Go.run_newObj
def sQ:TypeDesc->Bool
 |.slice _|.string=>true
 |_=>false
theorem wm{t u e sz ty n m cap:Nat}{d:TypeDesc}{base:Option Addr}{x:Value}{us:List Value}{w1:World}(aC:P.underlying t=some (.slice e))(aQ:dp P e=some sz)
  (hu:P.underlying u=some d) (a6:sQ d=true)
  (hlen:(Builtin.lenOf x).run P w=.ok m w) (ak:(Builtin.firstCells sz m x).run P w=.ok ⟨us⟩ w) (hle:n+m<=cap)
  (ev:match base with|none=>w1=w|some cx=>(storeCells (cx.add (n*sz)) us).run P w=.ok () w1):
  (Builtin.append_ #[t,u] ty #[.slice base n cap,x]).run P w=.ok (.slice base (n+m) cap) w1:=by
 unfold Builtin.append_;cases d<;>first
  |(simp[sQ]at a6;done)
  |(simp only[aAZ,aBI,aBm,azP,eB aC,eB hu,azS,jE aQ,azU,aAw,az4,hlen,aBg,aAa hle,aCm,if_true,ak]
    grind[Sem.run_pure,Sem.run_bind,Result.andThen_ok])
theorem ym{t u e sz bt ty n m cap:Nat}{d:TypeDesc}{base:Option Addr}{x:Value}{us olds:List Value}{i:TypeInfo}{ec:Value}(aC:P.underlying t=some (.slice e))(aQ:dp P e=some sz)(hi:P.info? e=some i)(ko:i.bytes=bt)(nI:i.zero=some ec)
  (hu:P.underlying u=some d) (a6:sQ d=true)
  (hlen:(Builtin.lenOf x).run P w=.ok m w) (ak:∀bS:World,bS.heap=w.heap->(Builtin.firstCells sz m x).run P bS=.ok ⟨us⟩ bS) (hold:∀bS:World,bS.heap=w.heap->(Builtin.firstCells sz n (.slice base n cap)).run P bS=.ok ⟨olds⟩ bS)
  (yn:cap<n+m) (aq:0<bt) (nJ:(n+m)*bt<=140737488355328):
  ∃et w1,(Builtin.append_ #[t,u] ty #[.slice base n cap,x]).run P w=.ok (.slice (some ⟨w.heap.size,0,none⟩) (n+m) et) w1/\n+m<=et/\
   ga w (.cells ⟨(olds++us)++(Builtin.zeroCells ec.cells (et-(n+m))).toList⟩ e) w1:=by
 have HD:=nextslicecap_le yn;have aep:¬Builtin.nextslicecap (n+m) cap*bt>2^48:=by
  have h1:Builtin.nextslicecap (n+m) cap*bt<=2*(n+m)*bt:=aAl _ HD;grind
 have hle:¬n+m<=cap:=axs;have HE:∀bS:World,(typeInfo e).run P bS=.ok i bS:=λbS=>by simp[typeInfo,azP,hi]
 have atA:¬(((n+m:Nat):Int)>IntKind.i64.max/\(False\/bt=0)):=axv;obtain⟨et,hR⟩:∃c,c=Question.cut (.appendCap (n+m) cap e) (w.tape w.drawn (.appendCap (n+m) cap e)):=⟨_,rfl⟩;refine⟨et,{w with drawn:=w.drawn+1,heap:=w.heap.push (.cells ((⟨olds⟩:Array Value)++⟨us⟩++Builtin.zeroCells ec.cells (et-(n+m))) e)},?_,?_,?_⟩;rotate_left
 .rw[hR];exact Nat.le_add_right _ _
 .refine⟨?_,rfl,rfl⟩;show w.heap.push _=w.heap.push _;congr 2;simp
 .unfold Builtin.append_;have aeq:=ak {w with drawn:=w.drawn+1} rfl;have yo:=hold {w with drawn:=w.drawn+1} rfl;cases d<;>first
   |(simp[sQ]at a6;done)
   |(simp only[aAZ,aBI,aBm,azP,eB aC,eB hu,azS,jE aQ,azU,aAw,az4,hlen,aBg,aAc hle,aCm,if_true,HE,ko,aAc aep,rr hi nI]
     simp only[run_choose,Question.forced,aAw,az4,azS,run_askRoom,azP,yo,aeq,newRow,aB1,azU];simp_all)
def aBv:=@Nat.div_mul_le_self
def aCn:=@List.flatMap_append
def aBw:=@Nat.le_of_eq
def aAA:=@List.getElem?_append_right
theorem ayb(h:p:=by grind[bytesOf]):p:=h
theorem ayc(h:p:=by grind[Builtin.zeroCells]):p:=h
theorem bX.drop{tmps:Array Value}{s:Nat}(h:bX gl w G ρ lam tmps st):bX gl w G ρ lam tmps (st.set s .undef) where
 aP t:=by
  simp only[af.set,df];by_cases aC:t=s
  .simp[aC,if_true];exact .ck (.undef _)
  .grind[aP]
 bI:=h.bI
 nb:=h.nb
 ob:=h.ob
 eI:=h.eI
 lt:=h.lt
theorem cn.aer{us:List Value}(h:cn w G us []):us=[]:=by cases h;rfl
theorem HF{z:ag}{sz uA:Nat}{l e0:List D}(h:z=.own sz l\/(z=.gE sz/\l=[]))(av:z=ij uA e0):sz=uA/\l=e0:=by
 rcases h with rfl|⟨rfl,rfl⟩<;>cases e0<;>simp[ij]at av<;>simp[av]
theorem AU{sz:Nat}{l:List D}(h:l≠[]):ij sz l=.own sz l:=by
 cases l with
 |nil=>simp_all
 |cons _ _=>rfl
theorem NV{z0:ag}{d s t u e sz bt b2:Nat}{x:Operand}{desc:TypeDesc}{z:List ag}{us:List Value}{l l2:List D}(p:bV n0 gl nt w G ρ lam a st)(aY:o.dst=some d)(bp:d<nt)
  (bu:o.op=.call {callee:=.builtin .append,args:= #[.tmp s,x],argTypes:= #[t,u]}) (aC:P.underlying t=some (.slice e)) (cm:dp P e=some sz) (gq:0<sz)
  (ko:bytesOf P e=some bt) (iu:0<bt) (lN:b2=140737488355328/bt) (aQ:zeros P e=some z) (hu:P.underlying u=some desc) (jG:sQ desc=true)
  (wo:wk P w (a.eval x) sz l2.length us) (lf:cn w G us (l2.flatMap D.cells)) (jh:∀d,d∈l2->d.cells.length=sz) (mj:l.length+l2.length<=b2) (aj:st.aP s=z0) (sR:z0=.own sz l\/(z0=.gE sz/\l=[]))
  (hs:K ((st.set s .undef).set d (cond l2.isEmpty z0 (.own sz (l++l2))))):o.wp P a w (cy n0 gl nt w G ρ K) Q:=by
 obtain⟨i,ec,hi,nI,rC,gu,_⟩:=nG aQ;have oq:i.bytes=bt:=ayb;have wq:ec.cells.size=sz:=axX;have fC:∀{v:Value} {w1:World},(Builtin.append_ #[t,u] o.type #[a.tmps.getD s undef,a.eval x]).run P w=.ok v w1->(execOp a.eval o).run P w=.ok (.value v) w1:=by
  intro v w1 h;have he:a.eval (.tmp s)=a.tmps.getD s undef:=rfl;simp only[execOp,bu,resolve,azP,azU,azS,invoke,builtin,aBi,aAh,aA8,he,h]
 have nJ:=by
  have:=aAl bt mj;rw[lN]at this;exact aAs this (aBv _ _)
 obtain⟨hlen,qn,jX,sN⟩:=wo;have rB:=qn w rfl;have nK:=p.rel.aP s;rw[aj]at nK;have yp:dr w G ρ (.slot s) (a.tmps.getD s undef) z0:=by rcases sR with rfl|⟨rfl,_⟩<;>exact nK
 by_cases sS:l2=[]
 ·
  subst sS;have NW:=lf.aer;subst NW;have hval:∃cx n c,a.tmps.getD s undef=.slice cx n c/\n=l.length/\n<=c:=by
   rcases yp.cases with hA|⟨_,e0,av,dV⟩|⟨_,_,_,av,dV⟩
   .rcases sR with rfl|⟨rfl,_⟩<;>cases hv:a.tmps.getD s undef<;>rw[hv]at hA<;>cases hA
    grind
   .obtain⟨rfl,rfl⟩:=HF sR av;rcases dV with⟨b,off,cap,c,E,fz,vs,h1,h2,_⟩|⟨rfl,cx,h1⟩
    all_goals grind
   simp_all
  obtain⟨cx,n,c,hv,az,ay⟩:=hval;have dy:=wm (P:=P) (ty:=o.type) (n:=n) (m:=0) (cap:=c) (base:=cx) (w1:=w) aC cm hu jG hlen rB axs (by cases cx<;>rfl);rw[aAj,<-hv]at dy;rw[<-aj]at hs;have aes:=fC dy;exact fP aes (Hh p.rel p.eC p.sz bp (Good.refl p.rel.lt) (λ_ _ h=>h) aY hs)
 .have hm:0<l2.length:=List.length_pos_iff.2 sS;have yq:l2.isEmpty=false:=axu;rw[yq]at hs;simp at hs;have grow:∀(cx:Option Addr) (cap:Nat) (olds:List Value),a.tmps.getD s undef=.slice cx l.length cap->(∀bS:World,bS.heap=w.heap->(Builtin.firstCells sz l.length (.slice cx l.length cap)).run P bS=.ok ⟨olds⟩ bS)->
    cn w G olds (l.flatMap D.cells)->(∀u,u∈olds->u.oneCell'=true)->(∀d,d∈l->d.cells.length=sz)->cap<l.length+l2.length->o.wp P a w (cy n0 gl nt w G ρ K) Q:=by
   intro cx cap olds hv hold holds yo aH aB;have atB:∀bS:World,bS.heap=w.heap->∀b off u,Cell w G b off u->bS.cell? ⟨b,off,none⟩=some u:=by
    intro bS h2 b off u av;have:=yj (w:=w) (w':=bS) (b:=b) (off:=off) (by rw[h2]);rw[this];exact av.1
   obtain⟨et,w1,dy,DX,hS⟩:=ym (P:=P) (ty:=o.type) (base:=cx) (x:=a.eval x) aC cm hi oq nI hu jG hlen qn hold aB iu nJ;rw[<-hv]at dy;have gP:∀d,d∈l++l2->d.cells.length=sz:=axv;have sT:(l++l2).length=l.length+l2.length:=axt;have mU:(Builtin.zeroCells ec.cells (et-(l.length+l2.length))).toList.length=(et-(l.length+l2.length))*sz:=ayc;have DY:olds.length=l.length*sz:=axW;refine fP (fC dy) (AO (L0:=.slot d) (m:=(l++l2).length*sz) p p.rel.drop hS axt aY bp (.lb ?_) hs);have:=Hz (ρ:=ρ) (d:=d) (cap:=et) hS gq gP axu (by rw[aCn];exact holds.append lf) axs
    (by
     rw[az6,az6,DY,sN,mU,<-aAD,<-aAD];simp_all)
    axt (λv hv=>axv)
   simp_all
  have gQ:(l=[]/\∃cx,a.tmps.getD s undef=.slice cx 0 0)\/lK w G (.slot s) (a.tmps.getD s undef) sz l:=by
   rcases yp.cases with hA|⟨uA,e0,heq,dV⟩|⟨_,_,_,heq,dV⟩
   .left;rcases sR with rfl|⟨rfl,_⟩<;>cases hv:a.tmps.getD s undef<;>rw[hv]at hA<;>cases hA
    simp
   .obtain⟨rfl,rfl⟩:=HF sR heq;exact dV.symm
   simp_all
  rcases gQ with⟨rfl,cx,hv⟩|dV
  ·
   refine grow cx 0 [] hv (λbS _=> ?_) .nil axt axt axs;cases cx with
   |none=>rfl
   |some cx=>simp[Builtin.firstCells,aAz,aA0];rfl
  .obtain⟨b,off,cap,c,E,fz,vs,h1,h2,av,aZ,bW,dh,h6,h7,im,kL⟩:=dV;have om:vs.length=l.length*sz:=axW;by_cases ml:l.length+l2.length<=cap
   ·
    have DZ:off+l.length*sz+0+us.length<=c.size:=by
     rw[sN];have:(l.length+l2.length)*sz<=cap*sz:=aAl _ ml;grind
    obtain⟨c',mn,wu,sU,rD,rE,rF⟩:=AP (b:=b) (m:=off+l.length*sz) (us:=us) (k:=0) av DZ;rw[aAj]at mn sU rD rE rF;obtain⟨au,hT,di,AV⟩:=DS (w:=w) (L':=.slot d) (m':=off+(l.length+l2.length)*sz) h6 axv av mn (λj aL=>sU j axs) (aBw wu.symm) rE rF p.rel.lt axt axt oo.1 oo.2;have sV:=aBk (P:=P) b (off+l.length*sz) us 0 w
     (λj aL=>by
      rw[aAj,cell_of_block av];grind)
     (λj aL=>by
      rw[aAj,uy av];have:off+l.length*sz+j<c.size:=axs;grind)
     jX
    rw[aAj]at sV;have dy:=wm (P:=P) (ty:=o.type) (n:=l.length) (m:=l2.length) (cap:=cap) (base:=some ⟨b,off,none⟩) (w1:=w.setCells b (off+l.length*sz) us) aC cm hu jG hlen rB ml
     (show(storeCells ((⟨b,off,none⟩:Addr).add _) us).run P w=_ by grind[Addr.add_mid])
    rw[<-h1]at dy;refine fP (fC dy) ?_;have dt:bX gl (w.setCells b (off+l.length*sz) us) (cW G b (some (.slot d,off+(l.length+l2.length)*sz))) ρ lam a.tmps (st.set s .undef):=by
     refine⟨λt=> ?_,?_,p.rel.nb,p.rel.ob.bR au (λ_=>hT _ axt) (λ_ _=>hT _ axt),p.rel.eI.bR au,AV⟩
     .simp only[af.set,df];by_cases hr:t=s
      .simp[hr,if_true];exact .ck (.undef _)
      .simp only[hr,az4];exact(p.rel.aP t).bR au (λ_ _ h=>h) (λ_ _ h=>h) (hT _ axv)
     .intro t cs aq;obtain⟨aR,g1,g2⟩:=p.rel.bI t cs aq;exact⟨aR,g1,dJ.bR au (λ_ _ h=>h) (hT _ axt) (λj=>hT _ axt) g2⟩
    rw[<-AU (sz:=sz) (l:=l++l2) (by simp[sS])]at hs;refine nF dt p.eC p.sz bp di (λ_ _ h=>h) aY (.lb (.M' ?_)) hs;have o8:(l++l2).length=l.length+l2.length:=az6;refine⟨b,off,cap,c',E,fz,vs++us,axt,axs,mn,axv,axs,dh,?_,?_,?_,?_⟩
    .grind[hQ]
    .grind
    .intro j v hv;rcases aAv j vs.length with aL|aL
     .rw[aAp aL]at hv;exact au.1 _ _ _ (im j v hv)
     .rw[aAA aL]at hv;have lO:j-vs.length<us.length:=axv;refine⟨?_,?_,jX v (aAe hv)⟩
      .rw[cell_of_block mn];have:=rD (j-vs.length) v hv;rw[show off+l.length*sz+(j-vs.length)=off+j by omega]at this;omega
      .intro iX n dB;grind[hQ]
    grind[cn.append,cn.keep]
   .refine grow (some ⟨b,off,none⟩) cap vs h1 (λbS hw=> ?_) kL im.one h7 axs;simp[Builtin.firstCells];rw[<-om];exact aBl (P:=P) bS ⟨b,off,none⟩ vs (λj v hv=>by
     rw[aAC,yj (w:=w) (w':=bS) (by rw[hw])];exact(im j v hv).1)
theorem rG{s t u:Nat}{x:Operand}{v:Value}{w1:World}(bu:o.op=.call {callee:=.builtin .append,args:= #[.tmp s,x],argTypes:= #[t,u]})
  (h:(Builtin.append_ #[t,u] o.type #[a.tmps.getD s undef,a.eval x]).run P w=.ok v w1):(execOp a.eval o).run P w=.ok (.value v) w1:=by
 have he:a.eval (.tmp s)=a.tmps.getD s undef:=rfl;simp only[execOp,bu,resolve,azP,azU,azS,invoke,builtin,aBi,aAh,aA8,he,h]
theorem bX.uB{d:Nat}{ob:Obj}{v:Value}{x:ag}{vo:b3}(h:bX gl w G ρ lam a.tmps st)(hw:ga w ob w')(a6:d<a.tmps.size)
  (bb:kj w' (fD w G (.obj st.s.length) 0) (ρ++[w.heap.size+1]) st.s.length w.heap.size vo) (ak:dc w' (fD w G (.obj st.s.length) 0) (ρ++[w.heap.size+1]) v x):
  bX gl w' (fD w G (.obj st.s.length) 0) (ρ++[w.heap.size+1]) lam (a.tmps.setIfInBounds d v) ({st with s:=st.s++[vo]}.set d x):=by
 have cM:∀i b:Nat,ρ[i]?=some (b+1)->(ρ++[w.heap.size+1])[i]?=some (b+1):=λi b hi=>hE i _ hi;have h0:=hw.rel (L0:=.obj st.s.length) (n0:=0) h.lt h;refine bX.set (st:={st with s:=st.s++[vo]}) ⟨λt=> ?_,?_,h0.nb,⟨ayp,?_⟩,h0.eI,h0.lt⟩ a6 (.ck ak)
 .exact(h0.aP t).bR (da.refl _ _) cM (λ_ _ h=>h) (λb n h=>⟨rfl,h⟩)
 .intro t dY aC;obtain⟨b,h1,h2⟩:=h0.bI t dY aC;exact⟨b,h1,dJ.bR (da.refl _ _) cM (λb n h=>⟨rfl,h⟩) (λj b n h=>⟨rfl,h⟩) h2⟩
 .intro i b o aq o9;rcases DI aq with eW|⟨hi,DJ⟩
  .have e7:i<st.s.length:=by
    rw[<-h.ob.1];grind
   rw[aAp e7]at o9;exact(h0.ob.2 i b o eW o9).bR (da.refl _ _) cM (λb n h=>⟨rfl,h⟩) (λj b n h=>⟨rfl,h⟩)
  .obtain rfl:w.heap.size=b:=by omega
   have je:i=st.s.length:=by rw[<-h.ob.1];omega
   simp_all
theorem ho.kill{s:aV}(h:ho w G ρ s)(i:Nat):ho w G ρ (s.set i .dead):=by
 refine⟨by simpa using h.1,λj b ob aL cq=> ?_⟩;by_cases eQ:j=i
 .subst eQ;have aB:j<s.length:=axv;rw[aAq aB]at cq;simp at cq;subst cq;trivial
 .rw[aAm (azZ eQ)]at cq;exact h.2 j b ob aL cq
theorem bX.atC{tmps:Array Value}(h:bX gl w G ρ lam tmps st)(i:Nat):bX gl w G ρ lam tmps {st with s:=st.s.set i .dead} where
 aP:=h.aP
 bI:=h.bI
 nb:=h.nb
 ob:=h.ob.kill i
 eI:=h.eI
 lt:=h.lt
def jw(i j:Nat):Loc->Loc
 |.obj k=>if k=i then .obj j else .obj k
 |.dx k c=>if k=i then .dx j c else .dx k c
 |L=>L
theorem NY{i j:Nat}{L:Loc}(h1:L≠.obj i)(h2:∀c,L≠.dx i c):jw i j L=L:=by
 cases L<;>simp[jw]<;>first|rfl|simp_all
theorem NZ{i j:Nat}(h:∀b L n,G b=some (L,n)->b<w.heap.size):Good w G w (cZ (jw i j) G):=
 Ng h rfl λL bF=>by
  cases L<;>simp[jw]at bF<;>first|(grind)|simp at bF|rfl
theorem bX.aeu{tmps:Array Value}{i b:Nat}{cs:List ag}(h:bX gl w G ρ lam tmps st)(aq:st.s.getD i .dead=.box cs)(hi:ρ[i]?=some (b+1)):
  bX gl w (cZ (jw i st.s.length) G) (ρ++[b+1]) lam tmps {st with s:=st.s.set i .dead++[.box cs]}/\Good w G w (cZ (jw i st.s.length) G):=by
 have cM:∀i cg:Nat,ρ[i]?=some (cg+1)->(ρ++[b+1])[i]?=some (cg+1):=λi cg hi=>hE i _ hi;have au:da w G w (cZ (jw i st.s.length) G):=jD _;have hid:∀L,L≠.obj i->(∀c,L≠.dx i c)->eV L L w G w (cZ (jw i st.s.length) G):=λL h1 h2=>ri (NY h1 h2);have fw:=ayY;refine⟨⟨λt=>(h.aP t).bR au cM (λ_ _ h=>h) (hid _ axt axt),?_,h.nb,⟨ayp,?_⟩,h.eI.bR au,qc h.lt⟩,NZ h.lt⟩
 .intro t dY aC;obtain⟨aR,h1,h2⟩:=h.bI t dY aC;exact⟨aR,h1,dJ.bR au cM (hid _ axt axt) (λj=>hid _ axt axt) h2⟩
 .intro j aR ob aL cq;rcases DI aL with mh|⟨mh,DJ⟩
  .have gB:j<st.s.length:=by
    rw[<-h.ob.1];grind
   rw[aAp axu]at cq;by_cases eQ:j=i
   .subst eQ;rw[aAq gB]at cq;simp at cq;subst cq;trivial
   .rw[aAm (azZ eQ)]at cq;exact(h.ob.2 j aR ob mh cq).bR au cM (hid _ axu axt) (λk=>hid _ axt axu)
  .obtain rfl:b=aR:=by omega
   have lO:j=st.s.length:=by rw[<-h.ob.1];omega
   subst lO;simp at cq;subst cq;have s1:=oh (w:=w) (G:=G) (jw i st.s.length) (.obj i);simp[jw,if_true]at s1;refine dJ.bR au cM s1 (λk=> ?_) fw;have s2:=oh (w:=w) (G:=G) (jw i st.s.length) (.dx i k);simp_all[jw]
def aAx:=@Array.getElem?_eq_getElem
def az2:=@decide_eq_false_iff_not
def aAT:=@List.length_take
def aBJ:=@List.getElem?_eq_none
def aAJ:=@List.append_assoc
def aB2:=@List.size_toArray
theorem axS(h:p:=by rw[<-p.rel.ob.1];simp):p:=h
theorem dJ.short{b:Nat}{L:Loc}{LC:Nat->Loc}{cs:List ag}(h:dJ w G ρ b L LC cs)(m:Nat):dJ w G ρ b L LC (cs.take m):=by
 obtain⟨c,E,fz,h1,h2,av,aZ,bW⟩:=h;refine⟨c,E,fz,h1,h2,av,axv,λj v x hv ak=> ?_⟩;grind
theorem bX.aev{tmps:Array Value}{i:Nat}(h:bX gl w G ρ lam tmps st):
  bX gl w (cZ (jw i st.s.length) G) ρ lam tmps {st with s:=st.s.set i .dead}/\Good w G w (cZ (jw i st.s.length) G):=by
 have au:da w G w (cZ (jw i st.s.length) G):=jD _;have hid:∀L,L≠.obj i->(∀c,L≠.dx i c)->eV L L w G w (cZ (jw i st.s.length) G):=λL h1 h2=>ri (NY h1 h2);refine⟨⟨λt=>(h.aP t).bR au (λ_ _ h=>h) (λ_ _ h=>h) (hid _ axt axt),?_,h.nb,⟨ayp,?_⟩,h.eI.bR au,qc h.lt⟩,NZ h.lt⟩
 .intro t dY aC;obtain⟨aR,h1,h2⟩:=h.bI t dY aC;exact⟨aR,h1,dJ.bR au (λ_ _ h=>h) (hid _ axt axt) (λj=>hid _ axt axt) h2⟩
 .intro j aR ob aL cq;by_cases eQ:j=i
  .subst eQ;have gB:j<st.s.length:=axv;rw[aAq gB]at cq;simp at cq;subst cq;trivial
  .rw[aAm (azZ eQ)]at cq;exact(h.ob.2 j aR ob aL cq).bR au (λ_ _ h=>h) (hid _ axu axt) (λk=>hid _ axt axu)
theorem bX.aew{tmps:Array Value}{i b:Nat}{cs xs:List ag}{us:List Value}(h:bX gl w G ρ lam tmps st)(aq:st.s.getD i .dead=.box cs)(hi:ρ[i]?=some (b+1))(aw:cf w G ρ us xs)
  (cm:sF w b (cs.length+us.length)):
  bX gl (w.setCells b cs.length us) (cW G b (some (.obj i,0))) ρ lam tmps {st with s:=st.s.set i (.box (cs++xs))}/\Good w G (w.setCells b cs.length us) (cW G b (some (.obj i,0))):=by
 have fw:=ayY;obtain⟨c,E,fz,h1,h2,av,aZ,bW⟩:=fw;obtain⟨c2,uz,qm,g',z2⟩:=cm;rw[h1]at g';obtain⟨rfl,rfl,rfl⟩:=g';obtain⟨c',mn,wu,sU,rD,rE,rF⟩:=AP (b:=b) (m:=cs.length) (us:=us) (k:=0) h1 axs;rw[aAj]at mn sU rD rE rF;obtain⟨au,hT,di,aB⟩:=DS (w:=w) (L':=.obj i) (m':=0) av (azI _) h1 mn (λj aL=>axs) (aBw wu.symm) rE rF h.lt axt axt oo.1 oo.2;refine⟨⟨λt=>(h.aP t).bR au (λ_ _ h=>h) (λ_ _ h=>h) (hT _ axt),?_,h.nb,⟨ax',?_⟩,h.eI.bR au,aB⟩,di⟩
 .intro t dY aC;obtain⟨aR,g1,g2⟩:=h.bI t dY aC;exact⟨aR,g1,dJ.bR au (λ_ _ h=>h) (hT _ axt) (λj=>hT _ axt) g2⟩
 .intro j aR ob aL cq;by_cases eQ:j=i
  .subst eQ;rw[hi]at aL;simp at aL;obtain rfl:b=aR:=axs;have gB:j<st.s.length:=axv;rw[aAq gB]at cq;simp at cq;subst cq;refine⟨c',E,fz,mn,axu,by rw[hQ],ax5,λk v x hv ak=> ?_⟩;rcases aAv k cs.length with qo|qo
   .rw[aAp qo]at ak;rw[sU k (.inl qo)]at hv;exact(bW k v x hv ak).bR au (λ_ _ h=>h) (hT _ axt)
   .rw[aAA qo]at ak;have hf:k-cs.length<us.length:=ax5;have hu:=azQ hf;have:=rD (k-cs.length) _ hu;rw[show cs.length+(k-cs.length)=k by omega]at this;grind[dr.ck,dc.keep,cf.get]
  .rw[aAm (azZ eQ)]at cq;exact(h.ob.2 j aR ob aL cq).bR au (λ_ _ h=>h) (hT _ axu) (λk=>hT _ axt)
theorem N0{s:aV}{i:Nat}{cs:List ag}(h:s.getD i .dead=.box cs):i<s.length:=axv
theorem aex{d s t u e sz bt b2 i off len cap k:Nat}{x:Operand}{desc:TypeDesc}{z cs us:List ag}{vs:List Value}(p:bV n0 gl nt w G ρ lam a st)(aY:o.dst=some d)(bp:d<nt)
  (bu:o.op=.call {callee:=.builtin .append,args:= #[.tmp s,x],argTypes:= #[t,u]}) (aC:P.underlying t=some (.slice e)) (cm:dp P e=some sz) (aey:0<sz)
  (ko:bytesOf P e=some bt) (iu:0<bt) (lN:b2=140737488355328/bt) (aQ:zeros P e=some z) (hu:P.underlying u=some desc) (jG:sQ desc=true)
  (wo:wk P w (a.eval x) sz k vs) (lf:cf w G ρ vs us) (aE:len+k<=b2) (aj:st.aP s=.aS i off len cap sz) (aD:st.s.getD i .dead=.box cs)
  (hs:cond (Nat.ble (len+k) cap)
    (Nat.ble (off+(len+k)*sz) cs.length=true/\K ({st with s:=st.s.set i (.box (putCells cs (off+len*sz) us))}.set d (.aS i off (len+k) cap sz)))
    ((Nat.beq off 0&&Nat.ble (len*sz) cs.length)=true/\K ({st with s:=st.s.set i .dead++[b3.box (cs.take (len*sz)++us)]}.set d (.aS st.s.length 0 (len+k) (len+k) sz)))):o.wp P a w (cy n0 gl nt w G ρ K) Q:=by
 obtain⟨hF,ec,hi,nI,rC,gu,_⟩:=nG aQ;have oq:=by unfold bytesOf at ko;rw[hi]at ko;simpa using ko
 have wq:=by unfold dp at cm;simp at cm;omega
 have nJ:=by
  have:=aAl bt aE;rw[lN]at this;exact aAs this (aBv _ _)
 obtain⟨hlen,qn,jX,sN⟩:=wo;have rB:=qn w rfl;have nK:=p.rel.aP s;rw[aj]at nK;have hA:=nK;generalize hv:a.tmps.getD s undef=v at hA;cases hA with
 |aS _ _ _ _ et _ b cM hR rl=>
  have fw:=by have:=p.rel.ob.at cM;rwa [aD]at this
  have e7:=N0 aD;have sV:∀c E fz,w.heap[b]?=some (.cells c E fz)->(∀j,j<c.size->¬(fz.1<=j/\j<fz.2))->off+(len+k)*sz<=c.size->
    (storeCells ((⟨b,off,none⟩:Addr).add (len*sz)) vs).run P w=.ok () (w.setCells b (off+len*sz) vs):=by
   intro c E fz av aZ hle;have aB:∀j,j<vs.length->off+len*sz+j<c.size:=by
    intro j aL;rw[aAD]at hle;omega
   have:=aBk (P:=P) b (off+len*sz) vs 0 w
    (λj aL=>by
     rw[aAj,cell_of_block av,aAx (aB j aL)];rfl)
    (λj aL=>by
     rw[aAj,uy av];have:=aZ _ (aB j aL);simp only[Bool.and_eq_false_imp,azN,az2];exact λaj aD=>this ⟨aj,aD⟩)
    jX
   rw[aAC];exact this
  cases ml:Nat.ble (len+k) cap with
  |true=>
   rw[ml]at hs;obtain⟨hle,hs⟩:=hs;have hle:=azW hle;have ml:=azW ml;have HG:=fw;obtain⟨c,E,fz,h1,h2,av,aZ,bW⟩:=HG;have dy:=wm (P:=P) (ty:=o.type) (n:=len) (m:=k) (cap:=et) (base:=some ⟨b,off,none⟩) (w1:=w.setCells b (off+len*sz) vs) aC cm hu jG hlen rB axs (sV c E fz h1 h2 axs);rw[<-hv]at dy;obtain⟨bU,b4⟩:=p.rel.AK (off:=off+len*sz) cM aD lf;refine fP (rG bu dy) (nF bU p.eC p.sz bp b4 (λ_ _ h=>h) aY (.ck (.aS _ _ _ _ _ _ _ cM hR (b4.keep.2.2 _ _ rl))) hs)
  |false=>
   rw[ml]at hs;obtain⟨ff,hs⟩:=hs;simp only[azH]at ff;obtain rfl:off=0:=azR ff.1;have ix:=azW ff.2;have pb:(cs.take (len*sz)).length=len*sz:=by rw[aAT];omega
   by_cases HI:len+k<=et
   ·
    obtain⟨c,E,fz,h1,h2,av,aZ,bW⟩:=fw;obtain⟨c2,uz,qm,g',z2⟩:=rl;rw[h1]at g';simp at g';obtain⟨rfl,rfl,rfl⟩:=g';have sW:(len+k)*sz<=c.size:=by
     have:=aAl sz HI;omega
    have dy:=wm (P:=P) (ty:=o.type) (n:=len) (m:=k) (cap:=et) (base:=some ⟨b,0,none⟩) (w1:=w.setCells b (0+len*sz) vs) aC cm hu jG hlen rB HI (sV c E fz h1 h2 axs);rw[<-hv]at dy;obtain⟨m1,m2⟩:=p.rel.aeu aD cM;have m3:bX gl w (cZ (jw i st.s.length) G) (ρ++[b+1]) lam a.tmps {st with s:=st.s.set i .dead++[.box (cs.take (len*sz))]}:=by
     refine⟨m1.aP,m1.bI,m1.nb,⟨by simpa using m1.ob.1,λj aR ob aL cq=> ?_⟩,m1.eI,m1.lt⟩;rcases DI cq with wx|⟨mh,DJ⟩
     .refine m1.ob.2 j aR ob aL ?_;have gB:j<(st.s.set i .dead).length:=by
       rcases aAv j (st.s.set i .dead).length with cG|cG
       .exact cG
       .rw[aBJ cG]at wx;simp at wx
      show(st.s.set i .dead++[.box cs])[j]?=some ob;rw[aAp gB];exact wx
     .subst DJ;have:=m1.ob.2 j aR (.box cs) aL (by
       show(st.s.set i .dead++[.box cs])[j]?=some (.box cs);rw[mh,aAA (azI _)];simp)
      exact dJ.short this _
    have AW:({st with s:=st.s.set i .dead++[.box (cs.take (len*sz))]}:af).s.getD st.s.length .dead=.box (cs.take (len*sz)):=by
     show(st.s.set i .dead++[b3.box (cs.take (len*sz))]).getD st.s.length .dead=_;rw[aAo,aAA axt];simp
    have rH:(ρ++[b+1])[st.s.length]?=some (b+1):=axS;obtain⟨b0,b7⟩:=m3.aew AW rH (lf.keep m2.keep (λi b h=>hE i _ h)) ⟨c,E,fz,h1,by rw[pb,sN,<-aAD];exact sW⟩;rw[pb]at b0 b7;rw[aAy]at dy;have iM:(st.s.set i .dead++[b3.box (cs.take (len*sz))]).set st.s.length (.box (cs.take (len*sz)++us))=st.s.set i .dead++[b3.box (cs.take (len*sz)++us)]:=by
     rw[List.set_append_right _ _ axt];simp
    simp at b0;refine fP (rG bu dy) (nF b0 p.eC p.sz bp (m2.trans b7) (λi b h=>hE i _ h) aY (.ck (.aS _ _ _ _ _ _ _ rH HI ?_)) hs);exact b7.keep.2.2 _ _ ⟨c,E,fz,h1,z2⟩
   ·
    have HG:=fw;obtain⟨c,E,fz,h1,h2,av,aZ,bW⟩:=HG;have N1:(c.toList.take (len*sz)).length=len*sz:=axv;have hold:∀bS:World,bS.heap=w.heap->(Builtin.firstCells sz len (.slice (some ⟨b,0,none⟩) len et)).run P bS=.ok ⟨c.toList.take (len*sz)⟩ bS:=by
     intro bS mo;simp[Builtin.firstCells];have:=aBl (P:=P) bS ⟨b,0,none⟩ (c.toList.take (len*sz)) (λj v hv=>by
      rw[aAC,DU mo,aAy,cell_of_block h1];grind)
     simp_all
    obtain⟨qp,w1,dy,D0,hS⟩:=ym (P:=P) (ty:=o.type) (base:=some ⟨b,0,none⟩) (x:=a.eval x) aC cm hi oq nI hu jG hlen qn hold axs iu nJ;rw[<-hv]at dy;obtain⟨bU,b4⟩:=p.rel.aev (i:=i);have km:(st.s.set i .dead).length=st.s.length:=axt;have D1:=hS.keeps (G:=cZ (jw i st.s.length) G) (L0:=.obj st.s.length) (n0:=0);have mU:(Builtin.zeroCells ec.cells (qp-(len+k))).toList.length=(qp-(len+k))*sz:=ayc;have uC:dJ w1 (fD w (cZ (jw i st.s.length) G) (.obj st.s.length) 0) (ρ++[w.heap.size+1]) w.heap.size (.obj st.s.length) (.dx st.s.length) (cs.take (len*sz)++us):=by
     refine⟨_,e,(0,0),hS.new,axt,axO,?_,λj v x hv ak=> ?_⟩
     .grind[cf.length]
     .rw[aAZ]at hv;rcases aAv j (len*sz)with aL|aL
      .rw[aAp axs,aBe,aAa aL]at ak;rw[aAJ,aAp axs,aBe,aAa aL,Array.getElem?_toList]at hv;have hV:=bW j v x hv ak;have s2:=oh (w:=w) (G:=G) (jw i st.s.length) (.dx i j);simp[jw,if_true]at s2;have DF:=hV.bR (ρ':=ρ) (jD (jw i st.s.length)) (λ_ _ h=>h) s2;exact DF.bR D1 (λi b h=>hE i _ h) (hS.same (L0:=.obj st.s.length) (n0:=0) bU.lt _)
      .rw[aAA axs,pb]at ak;have lO:j-len*sz<vs.length:=ax5;rw[aAJ,aAA axs,N1,aAp lO]at hv;exact .ck (((lf.get hv ak).keep (jD (jw i st.s.length)) (λ_ _ h=>h)).keep D1 (λi b h=>hE i _ h))
    have rH:(ρ++[w.heap.size+1])[st.s.length]?=some (w.heap.size+1):=axS;have jg:=bX.uB (a:=a) (d:=d) (v:=.slice (some ⟨w.heap.size,0,none⟩) (len+k) qp) (x:=.aS st.s.length 0 (len+k) (len+k) sz) (vo:=.box (cs.take (len*sz)++us)) (st:={st with s:=st.s.set i .dead}) bU hS (az' bp p.sz)
     (by show dJ _ _ _ _ (.obj (st.s.set i .dead).length) (.dx (st.s.set i .dead).length) _;simp_all)
     (by
      simp;refine .aS _ _ _ _ _ _ _ rH D0 ⟨_,e,(0,0),hS.new,?_⟩;simp only[aB2,az6,N1,sN,mU];rw[<-aAD,<-aAD];simp_all)
    simp at jg;refine fP (rG bu dy) (jT p.eC (put_defers _ _ _) axB _ (ρ++[w.heap.size+1]) lam _ ?_ (b4.trans (hS.good bU.lt (L0:=.obj st.s.length) (n0:=0) axt)) (λi b h=>hE i _ h) hs);rw[aY];exact jg
def az5:=@List.map_append
theorem aez{v:ag}{x:fb}(h:G4 v=some x):v=x.val:=by
 unfold G4 at h;split at h
 .simp at h;subst h;rfl
 .simp at h;subst h;rfl
 simp_all
theorem HJ:∀{us:List ag} {cs:List fb},ug us=some cs->us=ju cs
 |[],cs,h=>by simp[ug,azJ]at h;subst h;rfl
 |v::us,cs,h=>by
  simp[ug]at h;split at h
  .rename_i x xs h1 h2;simp at h;subst h;rw[aez h1,HJ h2];rfl
  .simp at h
theorem aeA{v:Value}{x:fb}(h:dc w G ρ v x.val):dc w G ρ' v x.val:=by
 cases x with
 |d x=>cases (show dc w G ρ v (.d x)from h)with|d _ _ h=>exact .d _ _ h
 |nil z=>cases (show dc w G ρ v (.own z [])from h)with|nil cx=>exact .nil _ _
theorem wy:∀{cs:List fb} {vs:List Value},cf w G ρ vs (ju cs)->cf w G ρ' vs (ju cs)
 |[],_,h=>by cases h;exact .nil
 |x::cs,_,h=>by cases h with|cons v _ vs _ h1 h2=>exact .cons _ _ _ _ (aeA h1) (wy h2)
theorem N2(cs gA:List fb):ju (cs++gA)=ju cs++ju gA:=az5
theorem N3{d sz e n k et:Nat}{olds vs zs:List Value}{cs gA:List fb}{w1:World}(hS:ga w (.cells ⟨(olds++vs)++zs⟩ e) w1)(hR:n+k<=et)(gq:0<sz)(bb:olds.length=n*sz)(hv:vs.length=k*sz)(mU:zs.length=(et-(n+k))*sz)
  (uw:cf w G ρ olds (ju cs)) (yd:cf w G ρ vs (ju gA)) (h1:∀u,u∈olds->u.oneCell'=true) (h2:∀u,u∈vs->u.oneCell'=true):
  o4 w1 (fD w G (.slot d) 0) (.slot d) (.slice (some ⟨w.heap.size,0,none⟩) (n+k) et) sz (n+k) (cs++gA):=by
 have au:=hS.keeps (G:=G) (L0:=.slot d) (n0:=0);refine⟨w.heap.size,et,_,e,(0,0),olds++vs,rfl,hR,hS.new,axt,?_,gq,axO,?_,λj v hv=>⟨?_,?_⟩,?_⟩
 .rw[aB2,az6,az6,bb,hv,mU,<-aAD,<-aAD];simp_all
 .grind
 .grind
 .grind
 .rw[N2];exact((wy uw).append (wy yd)).keep au (λ_ _ h=>h)
theorem aeB{d s t u e sz bt b2 n k:Nat}{x:Operand}{desc:TypeDesc}{z us:List ag}{ot:List Value}{cs gA:List fb}(p:bV n0 gl nt w G ρ lam a st)(aY:o.dst=some d)(bp:d<nt)
  (bu:o.op=.call {callee:=.builtin .append,args:= #[.tmp s,x],argTypes:= #[t,u]}) (aC:P.underlying t=some (.slice e)) (cm:dp P e=some sz) (gq:0<sz)
  (ko:bytesOf P e=some bt) (iu:0<bt) (lN:b2=140737488355328/bt) (aQ:zeros P e=some z) (hu:P.underlying u=some desc) (jG:sQ desc=true)
  (wo:wk P w (a.eval x) sz k ot) (lf:cf w G ρ ot us) (AX:ug us=some gA) (mj:n+k<=b2) (aj:st.aP s=.raw sz n cs)
  (hs:K ((st.set s .undef).set d (.raw sz (n+k) (cs++gA)))):o.wp P a w (cy n0 gl nt w G ρ K) Q:=by
 obtain⟨i,ec,hi,nI,rC,gu,_⟩:=nG aQ;have oq:i.bytes=bt:=ayb;have wq:ec.cells.size=sz:=axX;have nJ:=by
  have:=aAl bt mj;rw[lN]at this;exact aAs this (aBv _ _)
 obtain⟨hlen,qn,jX,sN⟩:=wo;have rB:=qn w rfl;obtain rfl:=HJ AX;have nK:=p.rel.aP s;rw[aj]at nK;obtain⟨b,cap,c,E,fz,vs,h1,h2,av,aZ,bW,dh,h6,h7,im,kL⟩:=(show o4 w G (.slot s) (a.tmps.getD s undef) sz n cs from nK);have aeC:∀u,u∈vs->u.oneCell'=true:=λu hu=>by
  obtain⟨j,aL,rfl⟩:=aA9 hu;exact(im j _ (azQ aL)).2
 by_cases ml:n+k<=cap
 .have DZ:0+n*sz+0+ot.length<=c.size:=by
   have:(n+k)*sz<=cap*sz:=aAl _ ml;grind
  obtain⟨c',mn,wu,sU,rD,rE,rF⟩:=AP (b:=b) (m:=0+n*sz) (us:=ot) (k:=0) av DZ;rw[aAj]at mn sU rD rE rF;obtain⟨au,hT,di,AV⟩:=DS (w:=w) (L':=.slot d) (m':=0) h6 (azI 0) av mn (λj aL=>absurd aL (aAM j)) (aBw wu.symm) rE rF p.rel.lt axt axt oo.1 oo.2;have sV:=aBk (P:=P) b (0+n*sz) ot 0 w
   (λj aL=>by
    rw[aAj,cell_of_block av];grind)
   (λj aL=>by
    rw[aAj,uy av];have:0+n*sz+j<c.size:=axs;grind)
   jX
  have dy:=wm (P:=P) (ty:=o.type) (n:=n) (m:=k) (cap:=cap) (base:=some ⟨b,0,none⟩) (w1:=w.setCells b (0+n*sz) ot) aC cm hu jG hlen rB ml
   (show(storeCells ((⟨b,0,none⟩:Addr).add _) ot).run P w=_ by grind[Addr.add_mid])
  rw[<-h1]at dy;refine fP (rG bu dy) ?_;have dt:bX gl (w.setCells b (0+n*sz) ot) (cW G b (some (.slot d,0))) ρ lam a.tmps (st.set s .undef):=by
   refine⟨λt=> ?_,?_,p.rel.nb,p.rel.ob.bR au (λ_=>hT _ axt) (λ_ _=>hT _ axt),p.rel.eI.bR au,AV⟩
   .simp only[af.set,df];by_cases hr:t=s
    .simp[hr,if_true];exact .ck (.undef _)
    .simp only[hr,az4];exact(p.rel.aP t).bR au (λ_ _ h=>h) (λ_ _ h=>h) (hT _ axv)
   .intro t cs aq;obtain⟨aR,g1,g2⟩:=p.rel.bI t cs aq;exact⟨aR,g1,dJ.bR au (λ_ _ h=>h) (hT _ axt) (λj=>hT _ axt) g2⟩
  refine nF dt p.eC p.sz bp di (λ_ _ h=>h) aY (.lb ?_) hs;refine⟨b,cap,c',E,fz,vs++ot,rfl,ml,mn,axv,axs,dh,hQ _ _ _,?_,?_,?_⟩
  .grind
  .intro j v hv;rcases aAv j vs.length with aL|aL
   .grind
   .rw[aAA aL]at hv;refine⟨?_,jX v (aAe hv)⟩;have:=rD (j-vs.length) v hv;rw[show 0+n*sz+(j-vs.length)=j by omega]at this;omega
  .rw[N2];exact(wy (kL.keep au (λ_ _ h=>h))).append (wy (lf.keep au (λ_ _ h=>h)))
 .have aB:cap<n+k:=by omega
  obtain⟨et,w1,dy,DX,hS⟩:=ym (P:=P) (ty:=o.type) (base:=some ⟨b,0,none⟩) (n:=n) (olds:=vs) (cap:=cap) (x:=a.eval x) aC cm hi oq nI hu jG hlen qn (λbS hw=>by
   simp[Builtin.firstCells];rw[<-h7];exact aBl (P:=P) bS ⟨b,0,none⟩ vs (λj v hv=>by
    rw[aAC,aAy,cell_of_block (by rw[hw];omega)];simp_all)) aB iu nJ
  rw[<-h1]at dy;have mU:(Builtin.zeroCells ec.cells (et-(n+k))).toList.length=(et-(n+k))*sz:=ayc;exact fP (rG bu dy) (AO (L0:=.slot d) (m:=0) p p.rel.drop hS axt aY bp (.lb (show dr _ _ _ _ _ (.raw _ _ _)from N3 hS DX gq h7 sN mU (wy kL) lf aeC jX)) hs)
theorem o4.q9{L0:Loc}{n sz m:Nat}{v:Value}{cs:List fb}(h:o4 w G L0 v sz m cs):
  ∃b cap,v=.slice (some ⟨b,0,none⟩) m cap/\m<=cap/\sF w b (0+cap*sz)/\∀ρ',dJ w (cZ (fc L0 (.obj n)) G) ρ' b (.obj n) (.dx n) (ju cs):=by
 obtain⟨b,cap,c,E,fz,vs,h1,h2,av,aZ,bW,dh,h6,h7,im,kL⟩:=h;have N4:m*sz<=cap*sz:=aAl _ h2;refine⟨b,cap,h1,h2,⟨c,E,fz,av,axs⟩,λρ'=>⟨c,E,fz,av,aZ,by rw[AE h6,sI],?_,λj v x hv ak=> ?_⟩⟩
 .grind[cf.length]
 .have aL:j<vs.length:=by
   grind[cf.length]
  have N5:=azQ aL;have:=(im j _ N5).1;rw[this]at hv;simp at hv;subst hv;exact .ck ((wy (ρ':=ρ') kL).get N5 ak |>.keep (jD _) (λ_ _ h=>h))
theorem ho.snoc{L0:Loc}{s:aV}{n b:Nat}{ob:b3}(az:n=s.length)(h:∀q aR o,ρ[q]?=some (aR+1)->s[q]?=some o->kj w (cZ (fc L0 (.obj n)) G) (ρ++[b+1]) q aR o)(aH:ρ.length=s.length)
  (bb:kj w (cZ (fc L0 (.obj n)) G) (ρ++[b+1]) n b ob):ho w (cZ (fc L0 (.obj n)) G) (ρ++[b+1]) (s++[ob]):=by
 refine⟨axv,λq aR o aT kP=> ?_⟩;grind
theorem bX.aeD{tmps:Array Value}{s sz m:Nat}{us:List fb}(h:bX gl w G ρ lam tmps st)(hs:st.aP s=.raw sz m us):
  ∃G' b,bX gl w G' (ρ++[b+1]) lam tmps ({st with s:=st.s++[b3.box (ju us)]}.set s (.aS st.s.length 0 m m sz))/\Good w G w G'/\dc w G' (ρ++[b+1]) (tmps.getD s undef) (.aS st.s.length 0 m m sz):=by
 have cX:=by have:=h.aP s;rw[hs]at this;exact this
 obtain⟨b,cap,h1,h2,av,aZ⟩:=cX.q9 (n:=st.s.length);have cM:∀i cg:Nat,ρ[i]?=some (cg+1)->(ρ++[b+1])[i]?=some (cg+1):=λi cg hi=>hE i _ hi;have au:da w G w (cZ (fc (.slot s) (.obj st.s.length)) G):=jD _;have hid:∀L',L'≠.slot s->eV L' L' w G w (cZ (fc (.slot s) (.obj st.s.length)) G):=λL' bF=>ri (qd bF);have hA:dc w (cZ (fc (.slot s) (.obj st.s.length)) G) (ρ++[b+1]) (tmps.getD s undef) (.aS st.s.length 0 m m sz):=by
  rw[h1];exact .aS _ _ _ _ _ _ _ ayU h2 (au.2.2 _ _ av)
 refine⟨_,b,⟨λt=> ?_,?_,h.nb,?_,h.eI.bR au,qc h.lt⟩,qe h.lt axt axt,hA⟩
 .simp only[af.set,df];by_cases aC:t=s
  .simp_all[de.ck]
  .simp only[aC,az4];exact(h.aP t).bR au cM (λ_ _ h=>h) (hid _ axv)
 .intro t cs aq;obtain⟨aR,q1,bK⟩:=h.bI t cs aq;exact⟨aR,q1,dJ.bR au cM (hid _ axt) (λj=>hid _ axt) bK⟩
 .exact ho.snoc rfl (λq aR o aT bb=>(h.ob.2 q aR o aT bb).bR au cM (hid _ axt) (λj=>hid _ axt)) h.ob.1 (aZ _)
theorem bX.vQ{tmps:Array Value}{i j b:Nat}{s':aV}(h:bX gl w G ρ lam tmps st)(hi:ρ[i]?=some (b+1))(he:aJ.vQ st.s i j=some s'):
  ∃G' ρ',bX gl w G' ρ' lam tmps {st with s:=s'}/\Good w G w G'/\(∀i b:Nat,ρ[i]?=some b->ρ'[i]?=some b):=by
 unfold aJ.vQ at he;split at he
 .rename_i cs gQ;split at he
  .rename_i sz m us aL;simp at he;subst he;have dV:=h.ob.at hi;rw[gQ]at dV;obtain⟨c,E,fz,g1,g2,g3,g4,g5⟩:=(show dJ w G ρ b (.obj i) (.dx i) cs from dV);have gB:j<cs.length:=axv;have lO:cs[j]?=some (.raw sz m us):=axu;have wz:j<c.size:=axs;have e7:=N0 gQ;have cX:=g5 j c[j] _ (aAx wz) lO;obtain⟨bO,cap,h1,h2,av,aZ⟩:=cX.q9 (n:=st.s.length);have cM:∀i cg:Nat,ρ[i]?=some (cg+1)->(ρ++[bO+1])[i]?=some (cg+1):=λi cg hi=>hE i _ hi;have au:da w G w (cZ (fc (.dx i j) (.obj st.s.length)) G):=jD _;have hid:∀L',L'≠.dx i j->eV L' L' w G w (cZ (fc (.dx i j) (.obj st.s.length)) G):=λL' bF=>ri (qd bF);refine⟨_,ρ++[bO+1],⟨λt=>(h.aP t).bR au cM (λ_ _ h=>h) (hid _ axt),?_,h.nb,?_,h.eI.bR au,qc h.lt⟩,qe h.lt axt axt,λi b h=>hE i _ h⟩
   .intro t dY aq;obtain⟨aR,q1,bK⟩:=h.bI t dY aq;exact⟨aR,q1,dJ.bR au cM (hid _ axt) (λj=>hid _ axt) bK⟩
   .refine ho.snoc axt (λq aR o aT bb=> ?_) ax' (aZ _);by_cases lP:q=i
    .subst lP;rw[aAq e7]at bb;simp at bb;subst bb;rw[hi]at aT;simp at aT;subst aT;refine⟨c,E,fz,g1,g2,by grind[AE,qd],axu,λki v' bx jH kO=> ?_⟩;by_cases D2:ki=j
     .subst D2;rw[aAq gB]at kO;simp at kO;subst kO;rw[aAx wz]at jH;simp at jH;subst jH;refine .ck ?_;rw[h1];exact .aS _ _ _ _ _ _ _ ayU h2 (au.2.2 _ _ av)
     .rw[aAm (azZ D2)]at kO;exact(g5 ki v' bx jH kO).bR au cM (hid _ axu)
    .rw[aAm (azZ lP)]at bb;exact(h.ob.2 q aR o aT bb).bR au cM (hid _ axt) (λki=>hid _ axu)
  .simp at he;subst he;exact⟨G,ρ,h,Good.refl h.lt,λ_ _ h=>h⟩
 simp_all
theorem bX.p7{i:Nat}{tmps:Array Value}:∀{n j b:Nat} {s s':aV} {G:bJ} {ρ:List Nat},ρ[i]?=some (b+1)->bX gl w G ρ lam tmps {st with s:=s}->aJ.p7 i s j n=some s'->
  ∃G' ρ',bX gl w G' ρ' lam tmps {st with s:=s'}/\Good w G w G'/\(∀i b:Nat,ρ[i]?=some b->ρ'[i]?=some b)
 |0,_,_,s,s',G,ρ,_,h,he=>by
  grind[aJ.p7,Good.refl,lt]
 |n+1,j,b,s,s',G,ρ,hi,h,he=>by
  simp[aJ.p7]at he;split at he
  .rename_i s1 h1;obtain⟨gC,jY,bU,g1,bN⟩:=h.vQ hi h1;obtain⟨fU,ρ2,b4,g2,cz⟩:=bX.p7 (s:=s1) (bN _ _ hi) bU he;exact⟨fU,ρ2,b4,g1.trans g2,λi b h=>cz i b (bN i b h)⟩
  .simp at he
theorem aeE{d t:Nat}{x:Operand}{bx:O}(p:bV n0 gl nt w G ρ lam a st)(aY:o.dst=some d)(bp:d<nt)(bu:o.op=.move x)(ak:bP P t x=some bx)
  (hs:step (bz P gl) gl (.oW d bx) st K):o.wp P a w (cy n0 gl nt w G ρ K) Q:=by
 have aw:(execOp a.eval o).run P w=.ok (.value (a.eval x)) w:=axM;rcases Hi ak p.rel with⟨s,rfl,rfl⟩|⟨az,_⟩
 .simp[step]at hs;split at hs
  .rename_i sz m us aj;obtain⟨G',b,bU,g1,hA⟩:=p.rel.aeD aj;exact fP aw (nF bU p.eC p.sz bp g1 (λi b h=>hE i _ h) aY (.ck hA) hs)
  .rename_i i off aj;have hA:=by have:=p.rel.aP s;rw[aj]at this;exact this
   generalize hv:a.tmps.getD s undef=v at hA;cases hA with
   |ptr _ _ b aq=>
    split at hs
    .rename_i cs aD;split at hs
     .rename_i s' aW;obtain⟨G',ρ',bU,g1,bN⟩:=bX.p7 (st:=st) aq p.rel aW;refine fP aw (nF bU p.eC p.sz bp g1 bN aY ?_ hs);show de _ _ _ _ _ (a.tmps.getD s undef) _;rw[hv];exact .ck (.ptr _ _ _ (bN _ _ aq))
     .exact hs.elim
    .exact hs.elim
  .exact p.value aY bp (v:=a.eval (.tmp s)) aw (vV ak p.rel) hs
 .exfalso;cases bx with
  |t s=>simp_all
  |c v=>exact hs
  |g n=>exact hs
theorem aeF{v:Value}{sz:Nat}(h:dc w G ρ v (.own sz [])):∃cx,v=.slice cx 0 0:=by
 cases h;simp
theorem HK{nw rw:Bool}{d s t u e sz bt b2:Nat}{x:Operand}{bx:O}{desc:TypeDesc}{t1:Nat}{z:List ag}(p:bV n0 gl nt w G ρ lam a st)(aY:o.dst=some d)(bp:d<nt)
  (bu:o.op=.call {callee:=.builtin .append,args:= #[.tmp s,x],argTypes:= #[t,u]}) (ak:bP P t1 x=some bx) (aC:P.underlying t=some (.slice e)) (cm:dp P e=some sz) (gq:0<sz)
  (ko:bytesOf P e=some bt) (iu:0<bt) (lN:b2=140737488355328/bt) (aQ:zeros P e=some z) (hu:P.underlying u=some desc) (jG:sQ desc=true)
  (hs:hz (bz P gl) gl nw rw d s bx sz b2 st K):o.wp P a w (cy n0 gl nt w G ρ K) Q:=by
 obtain⟨AG,kN⟩:=dC ak p.rel;unfold hz at hs;split at hs
 .rename_i ej l aj;cases az:(nw&&l.isEmpty)with
  |true=>
   rw[az]at hs;have aH:l=[]:=axu;subst aH;have nK:=p.rel.aP s;rw[aj]at nK;obtain⟨cx,hv⟩:=aeF (show dc w G ρ (a.tmps.getD s undef) (.own ej [])from nK);split at hs
   .rename_i atD aD;obtain⟨vs,h1,h2⟩:=AR (P:=P) p.rel.ob kN aD gq;have jf:vs=[]:=by
     have:=h1.2.2.2;simp_all
    subst jf;have dy:=wm (P:=P) (ty:=o.type) (n:=0) (m:=0) (cap:=0) (base:=cx) (w1:=w) aC cm hu jG h1.1 (h1.2.1 w rfl) (azI _) (by cases cx<;>rfl);rw[<-hv]at dy;exact p.value aY bp (rG bu dy) (by rw[hv];exact .ck (.nil _ _)) hs
   .rename_i cs k au aD;cases rw with
    |true=>
     split at hs
     rotate_left
     .exact hs.elim
     rename_i gA aW;obtain⟨aE,hs⟩:=hs;simp only[azH]at aE;obtain⟨lg,ff⟩:=aE;obtain rfl:ej=sz:=azR lg;have ff:=azW ff;obtain⟨vs,h1,h2⟩:=AR (P:=P) p.rel.ob kN aD gq;obtain rfl:=HJ aW;obtain⟨hF,ec,hi,nI,rC,gu,_⟩:=nG aQ;have oq:hF.bytes=bt:=ayb;have wq:ec.cells.size=ej:=axX;have nJ:(0+k)*bt<=140737488355328:=by
      rw[aAy];have:=aAl bt ff;rw[lN]at this;exact aAs this (aBv _ _)
     have sX:0<k:=axv;obtain⟨qp,w1,dy,D0,hS⟩:=ym (P:=P) (ty:=o.type) (n:=0) (olds:=[]) (cap:=0) (base:=cx) (x:=a.eval x) aC cm hi oq nI hu jG h1.1 h1.2.1
      (λbS _=>by
       cases cx with
       |none=>rfl
       |some cx=>simp[Builtin.firstCells,aA0];rfl) axs iu nJ
     rw[<-hv]at dy;have mU:(Builtin.zeroCells ec.cells (qp-(0+k))).toList.length=(qp-(0+k))*ej:=ayc;have jg:=N3 (G:=G) (ρ:=ρ) (d:=d) (n:=0) (cs:=[]) hS D0 gq axt h1.2.2.2 mU .nil h2 axt h1.2.2.1;rw[aAO]at jg;refine fP (rG bu dy) (AO (L0:=.slot d) (m:=0) p p.rel hS axt aY bp (.lb (show dr _ _ _ _ _ (.raw ej k gA)from ?_)) hs);have h0:=aAy k;rw[h0]at jg;show o4 _ _ _ (.slice _ (0+k) _) _ _ _;simp_all
    |false=>
     simp at hs;obtain⟨aE,hs⟩:=hs;simp only[azH]at aE;obtain⟨lg,ff⟩:=aE;obtain rfl:ej=sz:=azR lg;have ff:=azW ff;obtain⟨vs,h1,h2⟩:=AR (P:=P) p.rel.ob kN aD gq;obtain⟨hF,ec,hi,nI,rC,gu,_⟩:=nG aQ;have oq:hF.bytes=bt:=ayb;have wq:ec.cells.size=ej:=axX;have nJ:(0+k)*bt<=140737488355328:=by
      rw[aAy];have:=aAl bt ff;rw[lN]at this;exact aAs this (aBv _ _)
     have sX:0<k:=axv;obtain⟨qp,w1,dy,D0,hS⟩:=ym (P:=P) (ty:=o.type) (n:=0) (olds:=[]) (cap:=0) (base:=cx) (x:=a.eval x) aC cm hi oq nI hu jG h1.1 h1.2.1
      (λbS _=>by
       cases cx with
       |none=>rfl
       |some cx=>simp[Builtin.firstCells,aA0];rfl) axs iu nJ
     rw[<-hv]at dy;have D1:=hS.keeps (G:=G) (L0:=.obj st.s.length) (n0:=0);have mU:(Builtin.zeroCells ec.cells (qp-(0+k))).toList.length=(qp-(0+k))*ej:=ayc;have rH:(ρ++[w.heap.size+1])[st.s.length]?=some (w.heap.size+1):=axS;have jg:=bX.uB (a:=a) (d:=d) (v:=.slice (some ⟨w.heap.size,0,none⟩) (0+k) qp) (x:=.aS st.s.length 0 k k ej) (vo:=.box cs) p.rel hS (az' bp p.sz)
      (by
       refine⟨_,e,(0,0),hS.new,axt,axO,?_,λj v x hv ak=> ?_⟩
       .rw[<-h2.length,h1.2.2.2];simp only[aB2,az6,aAO,h1.2.2.2];omega
       .rw[aAZ,aAO]at hv;have lO:j<vs.length:=ax5;rw[aAp lO]at hv;exact .ck ((h2.get hv ak).keep D1 (λi b h=>hE i _ h)))
      (by
       rw[aAy];refine .aS _ _ _ _ _ _ _ rH axs ⟨_,e,(0,0),hS.new,?_⟩;simp only[aB2,az6,aAO,h1.2.2.2,mU];rw[<-aAD];simp_all)
     refine fP (rG bu dy) (jT p.eC (put_defers _ _ _) axB _ (ρ++[w.heap.size+1]) lam _ ?_ (hS.good p.rel.lt (L0:=.obj st.s.length) (n0:=0) axt) (λi b h=>hE i _ h) hs);rw[aY];exact jg
   .exact hs.elim
  |false=>
   rw[az]at hs;simp at hs;split at hs
   .rename_i dw l2 aD;obtain⟨aE,hs⟩:=hs;simp only[azH]at aE;obtain⟨⟨lg,ff⟩,mj⟩:=aE;obtain rfl:ej=sz:=azR lg;obtain rfl:dw=ej:=azR ff;obtain⟨us,h1,h2,av⟩:=NU (P:=P) p.rel.ob kN aD gq;exact NV p aY bp bu aC cm gq ko iu lN aQ hu jG h1 h2 av (azW mj) aj (.inl rfl) axv
   .exact hs.elim
 .rename_i ej n cs aj;split at hs
  .rename_i us k aD;split at hs
   .rename_i gA aW;obtain⟨aE,hs⟩:=hs;simp only[azH]at aE;obtain rfl:ej=sz:=azR aE.1;obtain⟨vs,h1,h2⟩:=AR (P:=P) p.rel.ob kN aD gq;exact aeB p aY bp bu aC cm gq ko iu lN aQ hu jG h1 h2 aW (azW aE.2) aj hs
   .exact hs.elim
  .exact hs.elim
 .rename_i i off len cap ej aj;split at hs
  .rename_i cs us k aD aW;obtain⟨aE,hs⟩:=hs;simp only[azH]at aE;obtain⟨lg,ff⟩:=aE;obtain rfl:ej=sz:=azR lg;obtain⟨vs,h1,h2⟩:=AR (P:=P) p.rel.ob kN aW gq;exact aex p aY bp bu aC cm gq ko iu lN aQ hu jG h1 h2 (azW ff) aj aD hs
  .exact hs.elim
 .rename_i ej aj;split at hs
  .rename_i dw l2 aD;obtain⟨aE,hs⟩:=hs;simp only[azH]at aE;obtain⟨⟨lg,ff⟩,mj⟩:=aE;obtain rfl:ej=sz:=azR lg;obtain rfl:dw=ej:=azR ff;obtain⟨us,h1,h2,av⟩:=NU (P:=P) p.rel.ob kN aD gq;exact NV (l:=[]) p aY bp bu aC cm gq ko iu lN aQ hu jG h1 h2 av axu aj (.inr ⟨rfl,rfl⟩) (by
    cases l2 with
    |nil=>exact hs
    |cons _ _=>exact hs)
  .exact hs.elim
 .exact hs.elim
def az8:=@Bool.not_eq_true'
def aBn:=@List.length_drop
theorem N6{b k:Nat}(N7:G b=some (.obj k,0)):da w G w (cW G b none):=by
 refine⟨λx off v ay=>⟨ay.1,λL n bF=> ?_,ay.2.2⟩,λx o hm=>⟨?_,hm.2⟩,λ_ _ h=>h⟩
 .simp only[df]at bF;split at bF
  .simp_all
  .exact ay.2.1 L n bF
 .simp only[df];split
  .rfl
  .exact hm.1
theorem aeG{b k:Nat}(h:G b=some (.obj k,0)){L:Loc}(bF:L≠.obj k):eV L L w G w (cW G b none):=by
 intro x n ak;refine⟨rfl,?_⟩;simp[df];grind
theorem aeH{b k:Nat}(aB:∀b L n,G b=some (L,n)->b<w.heap.size)(h:G b=some (.obj k,0)):Good w G w (cW G b none) where
 size:=azI _
 il x _ ak:=by
  grind[df]
 new x n ak bm:=by
  grind[df]
 old x n _ bm:=by
  grind[df]
 keep:=N6 h
 os:=rfl
 out:=rfl
theorem bX.oZ{k:Nat}{y:D}{x:ag}{v:Value}{tmps:Array Value}(h:bX gl w G ρ lam tmps st)(hv:dc w G ρ v x)(he:aJ.oZ st.s x=some (y,k)):
  ∃G',bX gl w G' ρ lam tmps {st with s:=st.s.set k .dead}/\Good w G w G'/\Rd w G' v y:=by
 unfold aJ.oZ at he;split at he
 .rename_i jd off len cap sz;cases hv with
  |aS _ _ _ _ et _ k9 HL hR rl=>
   have AY:=h.ob.at HL;split at he
   .rename_i bs sY;rw[sY]at AY;have fw:=AY;cases aE:(Nat.ble len cap&&Nat.blt 0 sz&&Nat.ble (off+len*sz) bs.length)with
    |false=>simp_all
    |true=>
     rw[aE]at he;simp only[azH]at aE;have qj:=azW aE.1.1;have cm:=azW aE.1.2;have hle:=azW aE.2;split at he
     .rename_i l bm;cases gP:l.all jt with
      |false=>simp_all
      |true=>
       rw[gP]at he;simp at he;obtain⟨rfl,rfl⟩:=he;obtain⟨f1,_⟩:=DW bm;have AQ:l.length=len*sz:=axv;obtain⟨c1,c2,c3⟩:=DV cm len l AQ gP;obtain⟨us,gb,fR,fp⟩:=fw.range hle;have jv:cn w G us l:=ya (LC:=λj=>.dx jd (off+j)) (k:=0) axs (λj v x hv ak=>by rw[aAy];exact fp j v x hv ak) bm;obtain⟨_,_,_,_,_,g3,_,_⟩:=fw;have au:=N6 (w:=w) g3;have hs:∀{L:Loc},L≠.obj jd->eV L L w G w (cW G k9 none):=λbF=>aeG g3 bF;refine⟨cW G k9 none,⟨λt=>(h.aP t).bR au (λ_ _ h=>h) (λ_ _ h=>h) (hs axt),?_,h.nb,⟨ax',?_⟩,h.eI.bR au,?_⟩,aeH h.lt g3,?_⟩
       .intro t dY aC;obtain⟨aR,q1,bK⟩:=h.bI t dY aC;exact⟨aR,q1,dJ.bR au (λ_ _ h=>h) (hs axt) (λj=>hs axt) bK⟩
       .intro q aR ob aT cq;have AZ:q<st.s.length:=axv;by_cases A0:q=jd
        .subst A0;rw[aAq AZ]at cq;simp at cq;subst cq;trivial
        .rw[aAm (azZ A0)]at cq;exact(h.ob.2 q aR ob aT cq).bR au (λ_ _ h=>h) (hs axv) (λj=>hs axt)
       .intro aR L n dP;simp only[df]at dP;split at dP
        .grind
        .exact h.lt _ _ _ dP
       .refine .list _ _ _ _ _ _ us c2.symm (aAs qj hR) c3 (λq u hu=>⟨fR q u hu,λL n bF=> ?_,?_⟩) (by grind[cn.keep])
        .grind[df]
        .have aT:q<us.length:=by
          grind
         have sZ:q<l.length:=axs;exact(jv.get hu (azQ sZ)).DQ (azX.1 gP _ (azT sZ))
     simp_all
   simp_all
 simp_all
theorem N8{b k d m:Nat}(h:G b=some (.obj k,0)):da w G w (cW G b (some (.slot d,m))):=by
 refine⟨λx off v ay=>⟨ay.1,λL n bF=> ?_,ay.2.2⟩,λx o hm=>⟨?_,hm.2⟩,λ_ _ h=>h⟩
 .by_cases e:x=b
  .subst e;have:=ay.2.1 _ _ h;omega
  .simp[df,aAc e]at bF;exact ay.2.1 L n bF
 .have e:x≠b:=λe=>by have:=hm.1;simp_all
  simp[df,aAc e];exact hm.1
theorem aeI{b k d m:Nat}(h:G b=some (.obj k,0)){L:Loc}(bF:L≠.obj k):eV L L w G w (cW G b (some (.slot d,m))):=by
 intro x n ak;refine⟨rfl,?_⟩;have e:x≠b:=λe=>axu;simp_all[df]
theorem aeJ{b k d m:Nat}(aB:∀b L n,G b=some (L,n)->b<w.heap.size)(h:G b=some (.obj k,0)):Good w G w (cW G b (some (.slot d,m))) where
 size:=azI _
 il x _ ak:=by
  have e:x≠b:=λe=>axu;simp_all[df]
 new x n ak bm:=by
  by_cases e:x=b
  .grind
  .simp[df,aAc e]at bm;grind
 old x n _ bm:=by
  by_cases e:x=b;all_goals simp_all[df]
 keep:=N8 h
 os:=rfl
 out:=rfl
theorem bX.aeK{k d:Nat}{y:D}{x:ag}{v:Value}{tmps:Array Value}(h:bX gl w G ρ lam tmps st)(hv:dc w G ρ v x)(he:aJ.oZ st.s x=some (y,k)):
  ∃G' sz l,y=.list sz l/\bX gl w G' ρ lam tmps {st with s:=st.s.set k .dead}/\Good w G w G'/\lK w G' (.slot d) v sz l:=by
 unfold aJ.oZ at he;split at he
 .rename_i jd off len cap sz;cases hv with
  |aS _ _ _ _ et _ k9 HL hR rl=>
   have AY:=h.ob.at HL;split at he
   .rename_i bs sY;rw[sY]at AY;have fw:=AY;cases aE:(Nat.ble len cap&&Nat.blt 0 sz&&Nat.ble (off+len*sz) bs.length)with
    |false=>simp_all
    |true=>
     rw[aE]at he;simp only[azH]at aE;have qj:=azW aE.1.1;have cm:=azW aE.1.2;have hle:=azW aE.2;split at he
     .rename_i l bm;cases gP:l.all jt with
      |false=>simp_all
      |true=>
       rw[gP]at he;simp at he;obtain⟨rfl,rfl⟩:=he;obtain⟨f1,_⟩:=DW bm;have AQ:l.length=len*sz:=axv;obtain⟨c1,c2,c3⟩:=DV cm len l AQ gP;obtain⟨us,gb,fR,fp⟩:=fw.range hle;have jv:cn w G us l:=ya (LC:=λj=>.dx jd (off+j)) (k:=0) axs (λj v x hv ak=>by rw[aAy];exact fp j v x hv ak) bm;obtain⟨c,E,fz,g1,g2,g3,g4,_⟩:=fw;obtain⟨atE,uz,qm,g',z2⟩:=rl;rw[g1]at g';obtain⟨rfl,rfl,rfl⟩:=g';have au:=N8 (w:=w) (d:=d) (m:=off+len*sz) g3;have hs:∀{L:Loc},L≠.obj jd->eV L L w G w (cW G k9 (some (.slot d,off+len*sz))):=λbF=>aeI g3 bF;refine⟨cW G k9 (some (.slot d,off+len*sz)),sz,_,rfl,⟨λt=>(h.aP t).bR au (λ_ _ h=>h) (λ_ _ h=>h) (hs axt),?_,h.nb,⟨ax',?_⟩,h.eI.bR au,?_⟩,aeJ h.lt g3,?_⟩
       .intro t dY aC;obtain⟨aR,q1,bK⟩:=h.bI t dY aC;exact⟨aR,q1,dJ.bR au (λ_ _ h=>h) (hs axt) (λj=>hs axt) bK⟩
       .intro q aR ob aT cq;have AZ:q<st.s.length:=axv;by_cases A0:q=jd
        .subst A0;rw[aAq AZ]at cq;simp at cq;subst cq;trivial
        .rw[aAm (azZ A0)]at cq;exact(h.ob.2 q aR ob aT cq).bR au (λ_ _ h=>h) (hs axv) (λj=>hs axt)
       .intro aR L n dP;simp[df]at dP;split at dP
        .grind
        .exact h.lt _ _ _ dP
       .refine⟨k9,off,et,c,E,fz,us,by rw[c2],axs,g1,g2,z2,cm,by rw[hQ,c2],c3,λq u hu=>⟨fR q u hu,λL n bF=> ?_,?_⟩,by grind[cn.keep]⟩
        .grind[hQ]
        .have aT:q<us.length:=by
          grind
         have sZ:q<l.length:=axs;exact(jv.get hu (azQ sZ)).DQ (azX.1 gP _ (azT sZ))
     simp_all
   simp_all
 simp_all
theorem bX.Ap{i j b:Nat}{s':aV}{tmps:Array Value}(h:bX gl w G ρ lam tmps st)(hi:ρ[i]?=some (b+1))(he:aJ.Ap st.s i j=some s'):
  ∃G',bX gl w G' ρ lam tmps {st with s:=s'}/\Good w G w G':=by
 unfold aJ.Ap at he;split at he
 .rename_i cs gQ;split at he
  .rename_i k off len cap sz au;split at he
   .rename_i y bN D3;cases yr:Nat.beq bN i with
    |true=>simp_all
    |false=>
     rw[yr]at he;simp at he;subst he;have cB:bN≠i:=λe=>axu;have dV:=h.ob.at hi;rw[gQ]at dV;have aeL:=dV;obtain⟨c,E,fz,h1,h2,av,aZ,bW⟩:=aeL;have aL:j<cs.length:=axv;have lO:cs[j]?=some (.aS k off len cap sz):=axu;have wz:j<c.size:=axs;have hv:=bW j c[j] _ (aAx wz) lO;have A1:=hv;obtain⟨G',bU,g1,d1⟩:=h.oZ A1 D3;refine⟨G',⟨bU.aP,bU.bI,bU.nb,⟨ax',?_⟩,bU.eI,bU.lt⟩,g1⟩;intro q aR ob aT cq;have AZ:q<st.s.length:=axv;by_cases lP:q=i
     .subst lP;rw[aAq axu]at cq;simp at cq;subst cq;rw[hi]at aT;simp at aT;subst aT;have gZ:=bU.ob.2 q b (.box cs) hi axu;obtain⟨c',atF,pc,HM,cz,gM,nL,qq⟩:=(show dJ w G' ρ b (.obj q) (.dx q) cs from gZ);rw[h1]at HM;obtain⟨rfl,rfl,rfl⟩:=HM;refine⟨c,E,fz,h1,h2,gM,axu,λki v' bx jH kO=> ?_⟩;by_cases D2:ki=j
      .subst D2;rw[aAq aL]at kO;simp at kO;subst kO;rw[aAx wz]at jH;simp at jH;subst jH;exact dr.ck (.d _ _ d1)
      grind
     .rw[aAm (azZ lP)]at cq;exact bU.ob.2 q aR ob aT cq
   simp_all
  .simp at he;subst he;exact⟨G,h,Good.refl h.lt⟩
 simp_all
theorem bX.sA{i b:Nat}{tmps:Array Value}(hi:ρ[i]?=some (b+1)):∀{n j:Nat} {s s':aV} {G:bJ},bX gl w G ρ lam tmps {st with s:=s}->aJ.sA i s j n=some s'->
  ∃G',bX gl w G' ρ lam tmps {st with s:=s'}/\Good w G w G'
 |0,_,s,s',G,h,he=>by
  grind[aJ.sA,Good.refl,lt]
 |n+1,j,s,s',G,h,he=>by
  simp[aJ.sA]at he;split at he
  .rename_i s1 h1;obtain⟨gC,bU,g1⟩:=h.Ap hi h1;obtain⟨fU,b4,g2⟩:=bX.sA hi (s:=s1) bU he;exact⟨fU,b4,g1.trans g2⟩
  .simp at he
theorem aeM{d t n t1:Nat}{x:Operand}{bx:O}(p:bV n0 gl nt w G ρ lam a st)(aY:o.dst=some d)(bp:d<nt)(bu:o.op=.load t x)(ak:bP P t1 x=some bx)
  (aQ:dp P t=some n) (dK:kf P t=some true) (hs:step (bz P gl) gl (.aQ d bx n) st K):o.wp P a w (cy n0 gl nt w G ρ K) Q:=by
 obtain⟨e6,aw⟩:=dC ak p.rel;simp[step]at hs;split at hs
 .rename_i i off aj;rw[aj]at aw;have gO:=aw;cases b8:a.eval x<;>rw[b8]at gO<;>cases gO;rename_i b aq;split at hs
  .rename_i s' aD;obtain⟨G',bU,b4⟩:=bX.sA (st:=st) (s:=st.s) aq p.rel aD;split at hs
   .rename_i cs aW;obtain⟨az,hs⟩:=hs;have fw:kj w G' ρ i b (.box cs):=by have:=bU.ob.at aq;simp_all
    obtain⟨v,dy,dt⟩:=AH (show dJ w G' ρ b (.obj i) (.dx i) cs from fw) (azW az) aQ dK (λh=>axv);refine fP (v:=v) ?_ (nF bU p.eC p.sz bp b4 (λ_ _ h=>h) aY (.ck dt) hs);grind[execOp,Sem.run_bind,Result.andThen_ok,Sem.run_pure]
   .exact hs.elim
  .exact hs.elim
 .exact hs.elim
theorem aeN{d t:Nat}{own:Bool}{x:Operand}{bx:O}(p:bV n0 gl nt w G ρ lam a st)(aY:o.dst=some d)(bp:d<nt)(bu:o.op=.assign x)(ak:bP P t x=some bx)
  (hs:step (bz P gl) gl (.mS d own bx) st K):o.wp P a w (cy n0 gl nt w G ρ K) Q:=by
 simp[step]at hs;split at hs
 .rename_i k off len cap sz aj;split at hs
  .rename_i y bN D3;obtain⟨e6,aw⟩:=dC ak p.rel;rw[aj]at aw;have gO:=aw;cases own with
   |false=>
    obtain⟨G',bU,g1,d1⟩:=p.rel.oZ gO D3;exact fP (v:=a.eval x) axM (nF bU p.eC p.sz bp g1 (λ_ _ h=>h) aY (.ck (.d _ _ d1)) hs)
   |true=>
    obtain⟨G',h5,l,rfl,bU,g1,d1⟩:=p.rel.aeK (d:=d) gO D3;exact fP (v:=a.eval x) axM (nF bU p.eC p.sz bp g1 (λ_ _ h=>h) aY (.lb (.M' d1)) hs)
  .exact hs.elim
 .exact Nh p aY bp bu ak (by simp_all[step])
theorem aeO{A:Array Value}{d:Nat}{x y:Value}:(A.setIfInBounds d x).setIfInBounds d y=A.setIfInBounds d y:=axt
theorem aeP{d s t e sz:Nat}{lo:Operand}{oj:O}(p:bV n0 gl nt w G ρ lam a st)(aY:o.dst=some d)(bp:d<nt)(bu:o.op=.slice t (.tmp s) (some lo) none none)(aH:bP P 0 lo=some oj)
  (hu:P.underlying t=some (.slice e)) (aQ:dp P e=some sz) (hs:step (bz P gl) gl (.so d s sz oj) st K):o.wp P a w (cy n0 gl nt w G ρ K) Q:=by
 simp[step]at hs;split at hs
 .rename_i z l k n aj aD;obtain⟨aE,hs⟩:=hs;simp only[azH,azN,az8,List.isEmpty_eq_false_iff]at aE;obtain⟨⟨⟨HN,lg⟩,ff⟩,cB⟩:=aE;obtain rfl:z=sz:=azR HN;have aq:=sM (P:=P) p (z:=some lo) (z':=some oj) (dflt:=0) (n:=n) (by grind[nE]) (by grind[bound]) lg;have D4:=p.rel.take (az' bp p.sz) (s:=s);have di:=qe (s:=.slot s) (d:=.slot d) p.rel.lt axt axt;have HO:=D4.aP d;rw[aj]at HO;have atG:=az' bp p.sz;have aeQ:(a.tmps.setIfInBounds d (a.tmps.getD s undef)).getD d undef=a.tmps.getD s undef:=axu;have ev:((st.set s .undef).set d (.own z l)).aP d=.own z l:=by simp[af.set,df]
  rw[aeQ,ev]at HO;have yp:dr w (cZ (fc (.slot s) (.slot d)) G) ρ (.slot d) (a.tmps.getD s undef) (ij z l):=by rw[AU cB];exact HO
  rcases yp.cases with hA|⟨uA,e0,av,dV⟩|⟨_,_,_,av,_⟩
  rotate_left 2
  .grind[AU]
  .rw[AU cB]at hA;cases hv:a.tmps.getD s undef<;>rw[hv]at hA<;>cases hA;simp_all
  .obtain⟨rfl,rfl⟩:=HF (.inl rfl) ((AU cB).symm.trans av);obtain⟨b,off,cap,c,E,fz,vs,h1,h2,aeR,aZ,bW,dh,h6,h7,im,kL⟩:=dV.elim id λh=>absurd h.1 cB;have az:n.toNat<=l.length:=axs;have hmul:n.toNat*z<=cap*z:=aAl _ axs;have atH:(cap-n.toNat)*z=cap*z-n.toNat*z:=Nat.sub_mul _ _ _;have N4:n.toNat*z<=l.length*z:=aAl _ az;have km:(l.length-n.toNat)*z=l.length*z-n.toNat*z:=Nat.sub_mul _ _ _;have yt:(l.drop n.toNat).length=l.length-n.toNat:=aBn;have ld:=yf (P:=P) (w:=w) (isSlice:=true) (len:=l.length) (cap:=cap) (lo:=some (a.eval lo)) (hi:=none) (mx:=none) (l:=n.toNat) (h:=l.length) (m:=cap) aq (.inl ⟨rfl,rfl⟩) (.inl ⟨rfl,rfl⟩) az h2 (azI _) axt;have nH:a.eval (.tmp s)=.slice (some ⟨b,off,none⟩) l.length cap:=h1;have dy:(execOp a.eval o).run P w=.ok (.value (.slice (if cap=n.toNat then some ⟨b,off,none⟩else some ((⟨b,off,none⟩:Addr).add (n.toNat*z))) (l.length-n.toNat) (cap-n.toNat))) w:=by
    simp[execOp,bu,nH,Instr.sliceAt,Instr.slice,azP,eB hu,azS,aAL,aBX,ld,azU,jE aQ]
   have kQ:lK w (cZ (fc (.slot s) (.slot d)) G) (.slot d) (.slice (some ⟨b,off+n.toNat*z,none⟩) (l.length-n.toNat) (cap-n.toNat)) z (l.drop n.toNat):=by
    refine⟨b,off+n.toNat*z,cap-n.toNat,c,E,fz,vs.drop (n.toNat*z),axt,axs,aeR,aZ,axs,dh,?_,λq aT=>h7 q (List.mem_of_mem_drop aT),?_,?_⟩
    .grind
    .intro j v hv;rw[aBh]at hv;have:=im _ _ hv;grind
    simp_all[Hn,cn.drop]
   have fm:rh w (cZ (fc (.slot s) (.slot d)) G) (.slot d) (.slice (if cap=n.toNat then some ⟨b,off,none⟩else some ((⟨b,off,none⟩:Addr).add (n.toNat*z))) (l.length-n.toNat) (cap-n.toNat)) z (l.drop n.toNat):=by
    by_cases ay:cap=n.toNat
    .right;simp_all
    .left;simp_all[aAC]
   have iM:=D4.set (d:=d) (x:=ij z (l.drop n.toNat)) axu (.lb (.x' fm));have aW:((st.set s .undef).set d (.own z l)).set d (ij z (l.drop n.toNat))=(st.set s .undef).set d (ij z (l.drop n.toNat)):=by
    unfold af.set;congr 1;grind[df]
   rw[aj,aW]at iM;rw[aeO]at iM;refine fP dy (jT p.eC (put_defers _ _ _) axB _ ρ lam _ (by rw[aY];exact iM) di (λ_ _ h=>h) hs)
 .exact hs.elim
theorem aeS{d s t e t1:Nat}{x:Operand}{bx:O}(p:bV n0 gl nt w G ρ lam a st)(aY:o.dst=some d)(bp:d<nt)(bu:o.op=.convert s t x)(ak:bP P t1 x=some bx)
  (vY:P.underlying s=some .string) (qg:P.underlying t=some (.slice e)) (HP:P.underlying e=some (.int .u8))
  (hs:step (bz P gl) gl (.h3 d bx) st K):o.wp P a w (cy n0 gl nt w G ρ K) Q:=by
 obtain⟨e6,h1⟩:=dC ak p.rel;simp[step]at hs;split at hs
 .rename_i q aj;rw[aj]at h1;obtain⟨s1,v1,rfl⟩:=h1.str;obtain⟨cap,hR⟩:∃c,c=Question.cut (.appendCap s1.size 0 e) (w.tape w.drawn (.appendCap s1.size 0 e)):=⟨_,rfl⟩;have hle:s1.size<=cap:=by rw[hR];exact Nat.le_add_right _ _
  let yu:Array Value:=s1.data.map λb=>.int .u8 b.toNat;let ob:Obj:=.cells (yu++Array.replicate (cap-s1.size) (Value.int .u8 0)) e (cap,cap+1);have cm:(yu++Array.replicate (cap-s1.size) (Value.int .u8 0)).size=cap:=by
   simp[yu,Array.size_append,Array.size_map,Array.size_replicate];simp_all
  have aw:(execOp a.eval o).run P w=.ok (.value (.slice (some ⟨w.heap.size,0,none⟩) s1.size cap)) {w with drawn:=w.drawn+1,heap:=w.heap.push ob}:=by
   simp only[execOp,bu,v1,convert,azP,eB vY,eB qg,eB HP,azS,Conv.stringToBytes,run_choose,Question.forced,aAw,az4,newRow,aB1,azU,markStringish,run_shape];rw[<-hR];have N9:(World.shape? {w with drawn:=w.drawn+1,heap:=w.heap.push (.cells (yu++Array.replicate (cap-s1.size) (.int .u8 0)) e (0,0))} w.heap.size)=some (e,cap):=by
    grind[World.shape?]
   simp[yu]at N9;simp[N9,azS,run_freeze];unfold World.freeze;simp;grind
  have ix:(yu++Array.replicate (cap-s1.size) (Value.int .u8 0))=⟨(s1.data.toList.map λb=>Value.int .u8 b.toNat)++(List.replicate (cap-s1.size) (.int .u8 0))⟩:=axv;have hw:ga w (.cells ⟨(s1.data.toList.map λb=>Value.int .u8 b.toNat)++(List.replicate (cap-s1.size) (.int .u8 0))⟩ e (cap,cap+1)) {w with drawn:=w.drawn+1,heap:=w.heap.push ob}:=⟨axv,rfl,rfl⟩;refine fP aw (AO (L0:=.res) (m:=s1.size) p p.rel hw axt aY bp (.ck (.d _ _ ?_)) hs);have yh:(s1.data.toList.map gj).flatMap D.cells=s1.data.toList.map gj:=by
   generalize s1.data.toList=q;induction q with
   |nil=>rfl
   |cons y ys ih=>simp[aAh,aAX,ih];rfl
  refine .list w.heap.size 0 _ cap 1 _ (s1.data.toList.map λb=>Value.int .u8 b.toNat) axt hle ?_ ?_ ?_
  .intro d a6;simp at a6;obtain⟨y,_,rfl⟩:=a6;rfl
  .exact NN hw axt (by
    intro v hv;simp at hv;obtain⟨y,_,rfl⟩:=hv;rfl)
  .generalize s1.data.toList=q;induction q with
   |nil=>exact .nil
   |cons y ys ih=>exact .cons _ _ _ _ (.int _ _) ih
 .exact hs.elim
theorem Oa:∀{l:List D} {s:List UInt8} {vs:List Value},oc l=some s->cn w G vs (l.flatMap D.cells)->∃ns:List Int,vs=ns.map (Value.int .u8)/\ns.map (λn=>UInt8.ofNat n.toNat)=s/\ns.length=l.length
 |[],s,vs,h,aw=>by
  simp[oc,azJ]at h;subst h;cases aw;simp
 |x::l,s,vs,h,aw=>by
  cases x<;>first|(simp[oc,reduceCtorEq]at h)|skip
  rename_i k n;cases k<;>first|(simp[oc,reduceCtorEq]at h;done)|skip
  simp[oc]at h;cases aq:oc l with
  |none=>simp[aq]at h
  |some s'=>
   simp[aq,azJ]at h;subst h;have gO:=aw;cases gO with
   |cons v _ qk _ h1 h2=>
    cases h1;obtain⟨ns,rfl,rfl,bW⟩:=Oa aq h2;exact⟨n::ns,rfl,rfl,by simp[bW]⟩
theorem aeT{d s t e t1:Nat}{x:Operand}{bx:O}(p:bV n0 gl nt w G ρ lam a st)(aY:o.dst=some d)(bp:d<nt)(bu:o.op=.convert s t x)(ak:bP P t1 x=some bx)
  (vY:P.underlying s=some (.slice e)) (qg:P.underlying t=some .string) (HP:P.underlying e=some (.int .u8))
  (hs:step (bz P gl) gl (.bs d bx) st K):o.wp P a w (cy n0 gl nt w G ρ K) Q:=by
 obtain⟨e6,h1⟩:=dC ak p.rel;simp[step]at hs;split at hs
 .rename_i sz l aj;split at hs
  .rename_i q aT;obtain⟨cx,cap,v1,hR,jV⟩:=(h1.gK aj).slice;have atI:=run_convert_bytes_string (P:=P) w s t e cx l.length cap vY HP qg;by_cases cB:l=[]
   .subst cB;simp[oc,azJ]at aT;subst aT;have aq:(Conv.bytesToString (.slice cx 0 cap)).run P w=.ok (.string .empty) w:=by
     cases cx with
     |none=>rfl
     |some cx=>rfl
    refine p.value aY bp (v:=.string .empty) ?_ (.ck (.d _ _ (.str _ _ rfl))) hs;grind[execOp,Sem.run_bind,Result.andThen_ok,Sem.run_pure]
   .obtain⟨b,off,vs,rfl,hw,ay,aw⟩:=jV cB;obtain⟨ns,rfl,rfl,hlen⟩:=Oa aT aw;have aeU:(loadCells ⟨b,off,none⟩ l.length).run P w=.ok (ns.map (Value.int .u8)).toArray w:=by
     have:=aBl (P:=P) w ⟨b,off,none⟩ (ns.map (Value.int .u8)) (λj v hv=>by rw[aAC];exact(ay j v hv).1);simp_all
    have aq:=run_bytesToString (P:=P) w ⟨b,off,none⟩ l.length cap ns aeU;refine p.value aY bp (v:=.string (ns.foldl (λr n=>r.push (UInt8.ofNat n.toNat)) ByteArray.empty)) ?_ (.ck (.d _ _ (.str _ _ ?_))) hs
    .grind[execOp,Sem.run_bind,Result.andThen_ok,Sem.run_pure]
    .have:∀(ns:List Int) (r:ByteArray),(ns.foldl (λr n=>r.push (UInt8.ofNat n.toNat)) r).data.toList=r.data.toList++ns.map (λn=>UInt8.ofNat n.toNat):=by
      intro ns;induction ns with
      |nil=>simp
      |cons n ns ih=>
       simp_all
     simp_all
  .exact hs.elim
 .exact hs.elim
theorem Ob(n m:Nat)(em:Bool)(ih:∀(t:Nat) (ks:List Nat) (vs:List Value) (v:Value),kinds P n t=some ks->vs.length=ks.length->shaped P t vs v->(Instr.checkKey em m t v).run P w=.ok () w)(V:Array Value):
  ∀(fs:List Field) (off:Nat) (ks:List Nat),sE P (kinds P n) fs off=some ks->off+ks.length<=V.size->
   (forIn (m:=Sem) fs PUnit.unit λf _=>do
    if f.name≠ "_" then Instr.checkKey em m f.type (<-part f.type V f.offset)
    pure (ForInStep.yield PUnit.unit)).run P w=.ok PUnit.unit w
 |[],_,_,_,_=>rfl
 |f::fs,off,ks,h,aH=>by
  unfold sE at h;split at h
  .rename_i az;obtain⟨sL,DE⟩:=az;cases au:kinds P n f.type with
   |none=>simp_all
   |some bN=>
    simp[au]at h;cases bm:sE P (kinds P n) fs (off+bN.length)with
    |none=>simp_all
    |some cz=>
     simp only[bm]at h;split at h
     .rename_i cm;simp at h;subst h;simp at aH;obtain⟨pv,Nq,rj⟩:=Hk (off:=off) au cm V axs (Hl au) w;have uw:=ih f.type bN _ pv au axv rj;have yd:=Ob n m em ih V fs (off+bN.length) cz bm axs;simp_all
     simp_all
  simp_all
theorem HQ(em:Bool):∀(n m t:Nat) (ks:List Nat) (vs:List Value) (v:Value),kinds P n t=some ks->n<=m->vs.length=ks.length->shaped P t vs v->(Instr.checkKey em m t v).run P w=.ok () w
 |0,_,_,_,_,_,h,_,_,_=>ax3
 |n+1,0,_,_,_,_,_,h,_,_=>absurd h axs
 |n+1,m+1,t,ks,vs,v,h,hm,aH,rj=>by
  unfold kinds at h;cases aC:P.underlying t with
  |none=>simp_all
  |some desc=>
   simp[aC]at h;cases desc<;>simp only[reduceCtorEq,azJ]at h;case struct fs=>
    have hs:hd P t=true:=ax4;unfold shaped at rj;rw[aAa hs]at rj;split at h
    .have:=Ob n m em (λt ks vs v h1 h2 av=>HQ em n m t ks vs v h1 axs h2 av) ⟨vs⟩ fs.toList 0 ks h axv;simp_all[Instr.checkKey,eB]
    simp_all
   all_goals
    simp_all[Instr.checkKey,eB]
theorem atJ{ks:List Nat}{x y:D}{r:Bool}(N7:cF ks x.cells y.cells=some r):True:=trivial
def yv(w:World)(G:bJ)(ρ:List Nat)(mes:List MapEntry)(es:List (D×ag)):Prop:=hD (λe p=>Rd w G e.key p.1/\dc w G ρ e.val p.2) mes es
theorem HR{mes:Array MapEntry}{es:List (D×ag)}(aH:mes.size=es.length)(h:∀(j:Nat) (e:MapEntry) (p:D×ag),mes[j]?=some e->es[j]?=some p->Rd w G e.key p.1/\dc w G ρ e.val p.2):yv w G ρ mes.toList es:=by
 have key:∀(l:List MapEntry) (es:List (D×ag)),l.length=es.length->(∀(j:Nat) (e:MapEntry) (p:D×ag),l[j]?=some e->es[j]?=some p->Rd w G e.key p.1/\dc w G ρ e.val p.2)->yv w G ρ l es:=by
  intro l;induction l with
  |nil=>intro es aH _;cases es with|nil=>exact .nil|cons=>simp_all
  |cons e l ih=>
   intro es aH h;cases es with
   |nil=>simp_all
   |cons p es=>exact .cons (h 0 e p rfl rfl) (ih es axv λj e p h1 h2=>h (j+1) e p axv axv)
 grind
def foundAt(mes:List MapEntry)(i:Nat):Option Nat->Option (Nat×Value)
 |none=>none
 |some j=>(mes[j-i]?).map λe=>(j,e.val)
theorem A2{ah:Bool}{ks:List Nat}{k:D}:∀{es:List (D×ag)} {i j:Nat},fu ah ks k es i=some (some j)->i<=j/\j<i+es.length
 |[],i,j,h=>by grind[fu]
 |e::es,i,j,h=>by
  simp[fu]at h;cases aE:ft ah e.1 with
  |false=>simp_all
  |true=>
   simp[aE,azL]at h;split at h
   .simp_all
   .have:=A2 h;grind
   simp_all
theorem Oc{e5:Nat}{ks:List Nat}{ah:Bool}{u:Value}{k:D}(au:kinds P 10 e5=some ks)(dK:hd P e5=ah)(hu:Rd w G u k)(br:ft ah k=true):
  ∀{mes:List MapEntry} {es:List (D×ag)} {i:Nat} {r:Option Nat},yv w G ρ mes es->fu ah ks k es i=some r->(Instr.findAsking e5 u mes i).run P w=.ok (foundAt mes i r) w
 |[],_,i,r,h,bm=>by
  cases h;simp[fu,azJ]at bm;subst bm;rfl
 |e::mes,_,i,r,h,bm=>by
  cases h with
  |cons he h=>
   rename_i p es;simp[fu]at bm;cases pd:ft ah p.1 with
   |false=>simp_all
   |true=>
   simp[pd,azL]at bm;cases aT:cF ks k.cells p.1.cells with
   |none=>simp_all
   |some b=>
    have heq:=Ns (P:=P) au dK hu he.1 br pd aT;simp[aT]at bm;cases b with
    |true=>
     simp at bm;subst bm;simp_all[Instr.findAsking,foundAt]
    |false=>
     have ih:=Oc au dK hu br h bm;simp only[Instr.findAsking,azP,heq,azS,aAw,az4,ih];congr 1;cases r with
     |none=>rfl
     |some j=>
      have kk:=(A2 bm).1;grind[foundAt]
theorem aeV{e5:Nat}{ks:List Nat}{desc:TypeDesc}{u v:Value}{x y:D}{r:Bool}(au:kinds P 10 e5=some ks)(a6:P.underlying e5=some desc)(dK:hd P e5=false)(ak:Rd w G u x)(hy:Rd w G v y)(bh:ft false x=true)(a2:ft false y=true)
  (he:cF ks x.cells y.cells=some r):Instr.sameNow desc u v=some r:=by
 have aeW:x.cells=[x]:=by cases x<;>first|rfl|grind[ft]
 have aeX:y.cells=[y]:=by cases y<;>first|rfl|grind[ft]
 rw[aeW,aeX]at he;unfold kinds at au;simp[a6]at au;cases desc<;>simp at au;case bool=>
  subst au;obtain⟨p,q,rfl,rfl,rfl⟩:=DC he;cases ak;cases hy;rfl
 case int=>
  subst au;obtain⟨k,p,q,rfl,rfl,rfl⟩:=Nk he;cases ak;cases hy;simp[Instr.sameNow,Ni]
 case string=>
  subst au;obtain⟨p,q,rfl,rfl,rfl⟩:=Nl he;cases ak with|str s1 _ h1=>cases hy with|str s2 _ h2=>simp_all[Instr.sameNow,beq_toListBytes,aA7,yc]
 grind[hd]
theorem Od{e5:Nat}{ks:List Nat}{desc:TypeDesc}{u:Value}{k:D}(au:kinds P 10 e5=some ks)(a6:P.underlying e5=some desc)(dK:hd P e5=false)(hu:Rd w G u k)(br:ft false k=true):
  ∀{mes:List MapEntry} {es:List (D×ag)} {i:Nat} {r:Option Nat},yv w G ρ mes es->fu false ks k es i=some r->Instr.findNow desc u mes i=some (foundAt mes i r)
 |[],_,i,r,h,bm=>by
  cases h;simp[fu,azJ]at bm;subst bm;rfl
 |e::mes,_,i,r,h,bm=>by
  cases h with
  |cons he h=>
   rename_i p es;simp[fu]at bm;cases pd:ft false p.1 with
   |false=>simp_all
   |true=>
   simp[pd,azL]at bm;cases aT:cF ks k.cells p.1.cells with
   |none=>simp_all
   |some b=>
    have heq:=aeV (P:=P) au a6 dK hu he.1 br pd aT;simp[aT]at bm;cases b with
    |true=>
     simp at bm;subst bm;simp_all[Instr.findNow,foundAt]
    |false=>
     have ih:=Od au a6 dK hu br h bm;simp only[Instr.findNow,heq,ih];cases r with
     |none=>rfl
     |some j=>
      have kk:=(A2 bm).1;grind[foundAt]
theorem yw{e5:Nat}{ks:List Nat}{ah:Bool}{u:Value}{k:D}(au:kinds P 10 e5=some ks)(dK:hd P e5=ah)(hu:Rd w G u k)(br:ft ah k=true)
  {mes:List MapEntry} {es:List (D×ag)} {r:Option Nat} (h:yv w G ρ mes es) (bm:fu ah ks k es 0=some r):(Instr.findKey e5 u mes).run P w=.ok (foundAt mes 0 r) w:=by
 have a6:∃desc,P.underlying e5=some desc:=ax3;obtain⟨desc,a6⟩:=a6;unfold Instr.findKey;simp[azP,eB a6,azS];cases ah with
 |false=>
  rw[Od au a6 dK hu br h bm];rfl
 |true=>
  have atK:=Oc au dK hu br h bm;cases mes with
  |nil=>
   cases h;simp[fu,azJ]at bm;subst bm;rfl
  |cons e mes=>
   grind[Instr.findNow,hd,Instr.sameNow]
end
end Go.aJ
