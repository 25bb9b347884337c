/- Part of ranges_said. -/
import Derived.Test.YthffhbakgmemaaaGreatDoorM1
set_option linter.defProp false
set_option maxRecDepth 100000
set_option maxHeartbeats 8000000
set_option linter.unusedSimpArgs false
set_option linter.unusedVariables false
namespace Go.aH
variable {p:Prop}
def aCf:=@Array.getElem?_push
def aAY:=@List.getElem?_append_left
def aCy:=@Option.bind_some
def aB7:=@List.length_eq_one_iff
def aAr:=@Nat.le_of_ble_eq_true
theorem ax5(h:p:=by rw[iU];exact p.sz):p:=h
theorem ayl(h:p:=by rw[fP,iC]):p:=h
theorem ayQ(h:p:=by grind[World.cell?]):p:=h
theorem ayR(h:p:=by simp[h.ob.1]):p:=h
theorem ay0(h:p:=by simp_all[fP,nq,Nat.ne_of_lt]):p:=h
theorem azl(h:p:=by rw[<-h.ob.1];simp):p:=h
theorem azm(h:p:=by simp_all[execOp,Instr.alloc,newVar,newRow,rW]):p:=h
theorem azn(h:p:=by simp_all[execOp,Instr.box,newVar,newRow]):p:=h
theorem azo(h:p:=by have:=p.rel.ob.at au;simp_all):p:=h
section
variable {P:Program}{gl:Nat->List D}{n0 nt:Nat}{a:Act}{w w':World}{G G':bI}{ρ ρ':List Nat}{lam lam':Nat->Option Nat}{st aT:ag}{K:ag->Prop}{o:Oper}{Q:Exit->Act->World->Prop}
theorem afa{b off:Nat}{v:Value}(h:w.cell? ⟨b,off,none⟩=some v):b<w.heap.size:=ayQ
theorem y2{b off:Nat}(h:w'.heap[b]?=w.heap[b]?):w'.cell? ⟨b,off,none⟩=w.cell? ⟨b,off,none⟩:=ayQ
theorem cell_of_block{b j:Nat}{c:Array Value}{E:TypeId}{fz:Nat×Nat}(h:w.heap[b]?=some (.cells c E fz)):w.cell? ⟨b,j,none⟩=c[j]?:=ayQ
theorem u5{b j:Nat}{c:Array Value}{E:TypeId}{fz:Nat×Nat}(h:w.heap[b]?=some (.cells c E fz)):w.frozen? ⟨b,j,none⟩=(decide (fz.1<=j)&&decide (j<fz.2)):=by
 grind[World.frozen?]
structure gD(w:World)(ob:Obj)(w':World):Prop where
 heap:w'.heap=w.heap.push ob
 os:w'.os=w.os:=by rfl
 out:w'.output=w.output:=by rfl
def fP(w:World)(G:bI)(L:Loc)(n:Nat):bI:=cC G w.heap.size (some (L,n))
section
variable {ob:Obj}{L0:Loc}{n0:Nat}(hw:gD w ob w')(aA:∀b L n,G b=some (L,n)->b<w.heap.size)
include hw
theorem gD.old{b:Nat}(au:b<w.heap.size):w'.heap[b]?=w.heap[b]?:=by
 rw[hw.heap,aCf];grind
theorem gD.new:w'.heap[w.heap.size]?=some ob:=by rw[hw.heap,aCf];simp
theorem gD.size:w'.heap.size=w.heap.size+1:=by rw[hw.heap];simp
theorem gD.keeps:da w G w' (fP w G L0 n0):=by
 refine⟨?_,?_,?_⟩;rotate_left 2
 .intro b n h;obtain⟨c,E,fz,sh,av⟩:=h;have au:=(aAU.1 sh).1;exact⟨c,E,fz,(hw.old au).trans sh,av⟩
 .intro b off v h;have au:=afa h.1;refine⟨by rw[y2 (hw.old au)];exact h.1,?_,h.2.2⟩;intro L n dA;rw[fP,nq _ _ (Nat.ne_of_lt au)]at dA;exact h.2.1 _ _ dA
 .intro b o h;obtain⟨h1,av,sh⟩:=h;have au:=(aAU.1 sh).1;exact⟨ay0,av,(hw.old au).trans sh⟩
include aA
theorem gD.same(L:Loc):e4 L L w G w' (fP w G L0 n0):=λb n h=>by
 have au:=aA _ _ _ h;exact⟨hw.old au,ay0⟩
theorem gD.good(wb:L0≠.foreign):Good w G w' (fP w G L0 n0) where
 size:=by grind[size]
 iB b au _:=⟨hw.old au,ay0⟩
 new b n au dA:=by
  rw[fP,dh]at dA;grind
 old b n au dA:=ay0
 keep:=hw.keeps
 os:=hw.os
 out:=hw.out
theorem gD.lt:∀b L n,fP w G L0 n0 b=some (L,n)->b<w'.heap.size:=λb L n h=>by
 rw[fP,dh]at h;grind[size]
theorem gD.rel{tmps:Array Value}(h:bS gl w G ρ lam tmps st):bS gl w' (fP w G L0 n0) ρ lam tmps st where
 aR t:=(h.aR t).bR hw.keeps (λ_ _ h=>h) (λ_ _ h=>h) (hw.same aA _)
 bH t cs au:=by
  obtain⟨b,h1,sh⟩:=h.bH t cs au;exact⟨b,h1,dM.bR hw.keeps (λ_ _ h=>h) (hw.same aA _) (λ_=>hw.same aA _) sh⟩
 nb:=h.nb
 ob:=h.ob.bR hw.keeps (λ_=>hw.same aA _) (λ_ _=>hw.same aA _)
 eU:=h.eU.bR hw.keeps
 lt:=hw.lt aA
end
theorem wY{cs:List ah}{vs:List Value}{L0:Loc}{LC:Nat->Loc}{E:TypeId}(hw:gD w (.cells ⟨vs⟩ E) w')(ax:ck w G ρ vs cs):
  dM w' (fP w G L0 0) ρ w.heap.size L0 LC cs:=
 ⟨⟨vs⟩,E,(0,0),hw.new,axX,ayl,ayw,λj v x hv ak=>.cp ((ax.get axY ak).keep hw.keeps λ_ _ h=>h)⟩
theorem bS.newLocal{d:Nat}{cs:List ah}{vs:List Value}{E:TypeId}(h:bS gl w G ρ lam a.tmps st)(hw:gD w (.cells ⟨vs⟩ E) w')(ax:ck w G ρ vs cs)(aY:d<a.tmps.size)(au:st.bH d=none):
  bS gl w' (fP w G (.rP d) 0) ρ (cC lam d (some w.heap.size)) (a.tmps.setIfInBounds d (.pointer (some ⟨w.heap.size,0,none⟩))) ((st.dX d cs).set d (.dT d 0)):=by
 have afb:∀t b,lam t=some b->cC lam d (some w.heap.size) t=some b:=by
  grind[nq,nb]
 have wb:=hw.rel (L0:=.rP d) (n0:=0) h.lt h;refine bS.set (st:=st.dX d cs) ⟨λt=> ?_,?_,?_,wb.ob,wb.eU,wb.lt⟩ aY ⟨w.heap.size,iC _ _ _,rfl⟩
 .exact(wb.aR t).bR (da.refl _ _) (λ_ _ h=>h) afb (λb n h=>⟨rfl,h⟩)
 .intro t dZ aE;simp[ag.dX,dh]at aE;by_cases Ou:t=d
  .subst Ou;grind[iC,wY]
  .grind[bH]
 .intro t aE;simp[ag.dX,dh]at aE;by_cases Ou:t=d
  .simp_all
  .grind[nq,nb]
theorem Ee{α:Type}{l:List α}{x y:α}{i:Nat}(h:(l++[x])[i]?=some y):l[i]?=some y\/(i=l.length/\x=y):=axZ
theorem bS.newObj{d:Nat}{cs:List ah}{vs:List Value}{E:TypeId}(h:bS gl w G ρ lam a.tmps st)(hw:gD w (.cells ⟨vs⟩ E) w')(ax:ck w G ρ vs cs)(aY:d<a.tmps.size):
  bS gl w' (fP w G (.obj st.s.length) 0) (ρ++[w.heap.size+1]) lam (a.tmps.setIfInBounds d (.pointer (some ⟨w.heap.size,0,none⟩))) ({st with s:=st.s++[b9.box cs]}.set d (.ptr st.s.length 0)):=by
 have cN:∀i b:Nat,ρ[i]?=some (b+1)->(ρ++[w.heap.size+1])[i]?=some (b+1):=axZ;have wb:=hw.rel (L0:=.obj st.s.length) (n0:=0) h.lt h;have aq:=hw.keeps (G:=G) (L0:=.obj st.s.length) (n0:=0);refine bS.set (st:={st with s:=st.s++[b9.box cs]}) ⟨λt=> ?_,?_,wb.nb,⟨ayR,?_⟩,wb.eU,wb.lt⟩ aY (.cp (.ptr _ _ _ azl))
 .exact(wb.aR t).bR (da.refl _ _) cN (λ_ _ h=>h) (λb n h=>⟨rfl,h⟩)
 .intro t dZ aE;obtain⟨b,h1,sh⟩:=wb.bH t dZ aE;exact⟨b,h1,dM.bR (da.refl _ _) cN (λb n h=>⟨rfl,h⟩) (λj b n h=>⟨rfl,h⟩) sh⟩
 .intro i b o au bd;rcases Ee au with eZ|⟨hi,Ef⟩
  .have dV:i<st.s.length:=by
    rw[<-h.ob.1];grind
   rw[aAY dV]at bd;exact(wb.ob.2 i b o eZ bd).bR (da.refl _ _) cN (λb n h=>⟨rfl,h⟩) (λj b n h=>⟨rfl,h⟩)
  .obtain rfl:w.heap.size=b:=by omega
   have jj:i=st.s.length:=by rw[<-h.ob.1];omega
   subst jj;simp at bd;subst bd;exact dM.bR (da.refl _ _) cN (λb n h=>⟨rfl,h⟩) (λj b n h=>⟨rfl,h⟩) (wY (LC:=.du st.s.length) hw ax)
theorem n1{t:Nat}{z:List ah}(h:zeros P t=some z):∃i v,P.info? t=some i/\i.zero=some v/\v.cells.size=z.length/\i.size=z.length/\∀{w G ρ},ck w G ρ v.cells.toList z:=by
 unfold zeros at h;simp at h;cases h1:oE P 20 t with
 |none=>simp_all
 |some cs=>
  cases sh:P.info? t with
  |none=>simp_all
  |some i=>
   cases av:i.zero with
   |none=>simp_all
   |some v=>
    simp only[h1,sh,av,aCy]at h;split at h
    .rename_i az;simp at h;subst h;simp only[aAc,aAi]at az;exact⟨i,v,rfl,av,az.1.1,az.1.2,HP axY az.2⟩
    simp_all
theorem rW{t:Nat}{i:TypeInfo}{v:Value}(h:P.info? t=some i)(aO:i.zero=some v)(w:World):(zeroValue t).run P w=.ok v w:=by
 simp_all[zeroValue,typeInfo]
theorem afc{d e:Nat}{z:List ah}(p:bT n0 gl nt w G ρ lam a st)(a8:o.dst=some d)(bu:d<nt)(bz:o.op=.alloc e)(aO:zeros P e=some z)
  (hs:step (bx P gl) gl (.kN d z) st K):o.wp P a w (cJ n0 gl nt w G ρ K) Q:=by
 obtain⟨i,v,h1,sh,av,aW,bL⟩:=n1 aO;simp[step]at hs;split at hs
 .rename_i au;have ax:(execOp a.eval o).run P w=.ok (.value (.pointer (some ⟨w.heap.size,0,none⟩))) {w with heap:=w.heap.push (.cells v.cells e)}:=azm;have hw:gD w (.cells ⟨v.cells.toList⟩ e) {w with heap:=w.heap.push (.cells v.cells e)}:=⟨rfl,rfl,rfl⟩;refine gb ax (kV p.eO (put_defers _ _ _) ax5 _ ρ (cC lam d (some w.heap.size)) _ ?_ (hw.good p.rel.lt (L0:=.rP d) (n0:=0) axX) (λ_ _ h=>h) hs);rw[a8];exact p.rel.newLocal hw bL (aAI bu p.sz) au
 .exact hs.elim
theorem afd{d e:Nat}{z:List ah}(p:bT n0 gl nt w G ρ lam a st)(a8:o.dst=some d)(bu:d<nt)(bz:o.op=.alloc e)(aO:zeros P e=some z)
  (hs:step (bx P gl) gl (.bp d z) st K):o.wp P a w (cJ n0 gl nt w G ρ K) Q:=by
 obtain⟨i,v,h1,sh,av,aW,bL⟩:=n1 aO;have ax:(execOp a.eval o).run P w=.ok (.value (.pointer (some ⟨w.heap.size,0,none⟩))) {w with heap:=w.heap.push (.cells v.cells e)}:=azm;have hw:gD w (.cells ⟨v.cells.toList⟩ e) {w with heap:=w.heap.push (.cells v.cells e)}:=⟨rfl,rfl,rfl⟩;refine gb ax (kV p.eO (put_defers _ _ _) ax5 _ (ρ++[w.heap.size+1]) lam _ ?_ (hw.good p.rel.lt (L0:=.obj st.s.length) (n0:=0) axX) iE hs);rw[a8];exact p.rel.newObj hw bL (aAI bu p.sz)
theorem df.cells{v:Value}{x:ah}{n:Nat}(h:df w G ρ v x)(ay:(cellsOf x).all (ea n)=true):ck w G ρ v.cells.toList (cellsOf x):=by
 cases h with
 |undef v=>grind[cellsOf,ea]
 |agg vs cs h=>exact h
 |d v y h=>
  cases h with
  |agg vs cs h=>exact h.D4
  |bool b=>exact .cons _ _ _ _ (.d _ _ (.bool b)) .nil
  |int k n=>exact .cons _ _ _ _ (.d _ _ (.int k n)) .nil
  |str s l h=>exact .cons _ _ _ _ (.d _ _ (.str s l h)) .nil
  |dP=>exact .cons _ _ _ _ (.d _ _ .dP) .nil
  |hS=>exact .cons _ _ _ _ (.d _ _ .hS) .nil
  |ll=>exact .cons _ _ _ _ (.d _ _ .ll) .nil
  |iy=>exact .cons _ _ _ _ (.d _ _ .iy) .nil
  |fn f=>exact .cons _ _ _ _ (.d _ _ (.fn f)) .nil
  |iface t v x h=>exact .cons _ _ _ _ (.d _ _ (.iface t v x h)) .nil
  |kT a c s=>exact .cons _ _ _ _ (.d _ _ (.kT a c s)) .nil
  |list b off n cap sz l vs h1 sh av aW bL=>exact .cons _ _ _ _ (.d _ _ (.list b off n cap sz l vs h1 sh av aW bL)) .nil
  |e1 b base off vs cs h1 sh=>exact .cons _ _ _ _ (.d _ _ (.e1 b base off vs cs h1 sh)) .nil
  |hT t v=>exact .cons _ _ _ _ (.d _ _ (.hT t v)) .nil
  |ln b td tf kl vl ks vs h1 sh av aW=>exact .cons _ _ _ _ (.d _ _ (.ln b td tf kl vl ks vs h1 sh av aW)) .nil
 |nil a sz=>exact .cons _ _ _ _ (.nil _ _) .nil
 |ptr i off b h=>exact .cons _ _ _ _ (.ptr _ _ _ h) .nil
 |map i b h=>exact .cons _ _ _ _ (.map _ _ h) .nil
 |aN i off len cap eu sz b h az aO=>exact .cons _ _ _ _ (.aN _ _ _ _ _ _ _ h az aO) .nil
 |func f fp cs a c h1 sh=>exact .cons _ _ _ _ (.func _ _ _ _ _ h1 sh) .nil
 |tuple vs cs h=>exact .cons _ _ _ _ (.tuple _ _ h) .nil
 |fY i l h=>exact .cons _ _ _ _ (.fY _ _ h) .nil
theorem afe{v:Value}{x:ah}{L:Loc}{n:Nat}(h:di w G ρ lam L v (snap x))(ay:(cellsOf (snap x)).all (ea n)=true):df w G ρ v (snap x):=by
 rcases h.cases with h|⟨t,off,b,e,h1,sh⟩
 .have:=h.snap;have hs:snap (snap x)=snap x:=by cases x<;>rfl
  simp_all
 grind[cellsOf,ea]
theorem Eg{v:Value}{x:ah}{L:Loc}{n:Nat}(h:di w G ρ lam L v x)(ay:(cellsOf (gP x)).all (ea n)=true):df w G ρ v (gP x):=by
 unfold gP at ay⊢;split at ay
 .exact h
 .exact afe (h.snap (L':=.res)) ay
theorem aff{d e n t1:Nat}{x:Operand}{bA:O}(p:bT n0 gl nt w G ρ lam a st)(a8:o.dst=some d)(bu:d<nt)(bz:o.op=.box e x)(ak:bO P t1 x=some bA)
  (hs:step (bx P gl) gl (.fV d bA n) st K):o.wp P a w (cJ n0 gl nt w G ρ K) Q:=by
 simp[step]at hs;split at hs
 .rename_i au;obtain⟨aC,hs⟩:=hs;simp only[aAc]at aC;obtain⟨Bl,kX⟩:=dQ ak p.rel;have hA:=Eg kX aC.2;have az:=hA.cells aC.2;have ax:(execOp a.eval o).run P w=.ok (.value (.pointer (some ⟨w.heap.size,0,none⟩))) {w with heap:=w.heap.push (.cells (a.eval x).cells e)}:=azn;have hw:gD w (.cells ⟨(a.eval x).cells.toList⟩ e) {w with heap:=w.heap.push (.cells (a.eval x).cells e)}:=⟨rfl,rfl,rfl⟩;refine gb ax (kV p.eO (put_defers _ _ _) ax5 _ ρ (cC lam d (some w.heap.size)) _ ?_ (hw.good p.rel.lt (L0:=.rP d) (n0:=0) axX) (λ_ _ h=>h) hs);rw[a8];exact p.rel.newLocal hw az (aAI bu p.sz) au
 .exact hs.elim
theorem afg{d e n t1:Nat}{x:Operand}{bA:O}(p:bT n0 gl nt w G ρ lam a st)(a8:o.dst=some d)(bu:d<nt)(bz:o.op=.box e x)(ak:bO P t1 x=some bA)
  (hs:step (bx P gl) gl (.au d bA n) st K):o.wp P a w (cJ n0 gl nt w G ρ K) Q:=by
 obtain⟨aC,hs⟩:=hs;simp only[aAc]at aC;obtain⟨Bl,kX⟩:=dQ ak p.rel;have hA:=Eg kX aC.2;have az:=hA.cells aC.2;have ax:(execOp a.eval o).run P w=.ok (.value (.pointer (some ⟨w.heap.size,0,none⟩))) {w with heap:=w.heap.push (.cells (a.eval x).cells e)}:=azn;have hw:gD w (.cells ⟨(a.eval x).cells.toList⟩ e) {w with heap:=w.heap.push (.cells (a.eval x).cells e)}:=⟨rfl,rfl,rfl⟩;refine gb ax (kV p.eO (put_defers _ _ _) ax5 _ (ρ++[w.heap.size+1]) lam _ ?_ (hw.good p.rel.lt (L0:=.obj st.s.length) (n0:=0) axX) iE hs);rw[a8];exact p.rel.newObj hw az (aAI bu p.sz)
theorem dM.range{b:Nat}{L:Loc}{LC:Nat->Loc}{cs:List ah}(h:dM w G ρ b L LC cs){off n:Nat}(ay:off+n<=cs.length):
  ∃vs:List Value,vs.length=n/\w.rangeAt b off vs/\∀j v x,vs[j]?=some v->((cs.drop off).take n)[j]?=some x->dn w G ρ (LC (off+j)) v x:=by
 obtain⟨c,E,fz,h1,sh,av,aW,bL⟩:=h;refine⟨(c.toList.drop off).take n,axZ,?_,?_⟩
 .intro j v hv;grind[cell_of_block]
 grind
theorem Bm{b off t n:Nat}{ai:Bool}{L:Loc}{LC:Nat->Loc}{cs:List ah}(h:dM w G ρ b L LC cs)(ay:off+n<=cs.length)(aO:dc P t=some n)(dB:kq P t=some ai)(h1:ai=false->n=1):
  ∃v,(Instr.loadAt t (.pointer (some ⟨b,off,none⟩))).run P w=.ok v w/\df w G ρ v (valOf cs off n ai):=by
 obtain⟨vs,aI,ax,hv⟩:=h.range ay;have pA:(P.info? t).map (·.size)=some vs.length:=by rw[aI];exact aO
 cases ai with
 |true=>
  have:∃d,P.underlying t=some d/\d.isRow=true:=by
   grind[kq]
  obtain⟨d,hu,aY⟩:=this;refine⟨.agg vs.toArray,run_loadAt_mid w b off t vs d ax hu aY pA,?_⟩;exact D5 (LC:=λj=>LC (off+j)) axZ hv
 |false=>
  obtain rfl:=h1 rfl;obtain⟨v,rfl⟩:=aB7.1 aI;refine⟨v,?_,?_⟩
  .have az:=ax 0 v rfl;simp_all[Instr.loadAt,Instr.sureAddr,loadVar,wR]
  .have ak:cs[off]?=some (cs.getD off .undef):=by grind
   have sh:((cs.drop off).take 1)[0]?=some (cs.getD off .undef):=axZ;exact(hv 0 v (cs.getD off .undef) rfl sh).snap
theorem afh{d t s off n t1:Nat}{ai:Bool}{x:Operand}{bA:O}(p:bT n0 gl nt w G ρ lam a st)(a8:o.dst=some d)(bu:d<nt)(bz:o.op=.load t x)(ak:bO P t1 x=some bA)
  (aO:dc P t=some n) (dB:kq P t=some ai) (h1:ai=false->n=1) (hs:step (bx P gl) gl (.hX d bA s off n ai) st K):o.wp P a w (cJ n0 gl nt w G ρ K) Q:=by
 obtain⟨fB,ax⟩:=dQ ak p.rel;simp[step]at hs;split at hs
 .rename_i ek dL cs aj aF;obtain⟨aC,hs⟩:=hs;simp only[aAc]at aC;obtain⟨⟨aE,bd⟩,ay⟩:=aC;obtain rfl:ek=s:=aAn aE;obtain rfl:dL=off:=aAn bd;rw[aj]at ax;obtain⟨b,au,hv⟩:=ax;obtain⟨cj,eZ,ft⟩:=p.rel.bH ek cs aF;rw[eZ]at au;simp at au;obtain⟨v,dv,dz⟩:=Bm ft (aAr ay) aO dB h1;refine p.value a8 bu (v:=v) ?_ (.cp dz) hs;grind[execOp,Sem.run_bind,Result.andThen_ok,Sem.run_pure]
 .exact hs.elim
theorem ht.at{s:aU}(h:ht w G ρ s){i b:Nat}(hi:ρ[i]?=some (b+1)):kv w G ρ i b (s.getD i .dead):=by
 have aI:i<s.length:=by
  rw[<-h.1];grind
 exact h.2 i b _ hi axY
theorem afi{b base off t n:Nat}{ai:Bool}{vs:List Value}{cs:List D}(az:iT w G b base vs)(ax:cl w G vs cs)(ay:off+n<=cs.length)(aO:dc P t=some n)(dB:kq P t=some ai)(h1:ai=false->n=1):
  ∃v,(Instr.loadAt t (.pointer (some ⟨b,base+off,none⟩))).run P w=.ok v w/\Rd w G v (cond ai (.agg ((cs.drop off).take n)) (cs.getD off .dP)):=by
 have aI:=ax.length;have tt:=λj v hv=>(az.sub off n j v hv).1;have hlen:((vs.drop off).take n).length=n:=axZ;cases ai with
 |true=>
  have:∃d,P.underlying t=some d/\d.isRow=true:=by
   grind[kq]
  obtain⟨d,hu,aY⟩:=this;exact⟨.agg ((vs.drop off).take n).toArray,run_loadAt_mid w b _ t _ d tt hu aY (by rw[hlen];exact aO),.agg _ _ ((ax.drop off).take n)⟩
 |false=>
  obtain rfl:=h1 rfl;have aA:off<vs.length:=axW;have hv:=aAj aA;have aDE:=(az off _ hv).1;refine⟨vs[off],?_,ax.get hv axZ⟩;simp_all[Instr.loadAt,Instr.sureAddr,loadVar,wR]
theorem afj{d t n t1:Nat}{ai:Bool}{x:Operand}{bA:O}(p:bT n0 gl nt w G ρ lam a st)(a8:o.dst=some d)(bu:d<nt)(bz:o.op=.load t x)(ak:bO P t1 x=some bA)
  (aO:dc P t=some n) (dB:kq P t=some ai) (h1:ai=false->n=1) (hs:step (bx P gl) gl (.aI d bA n ai) st K):o.wp P a w (cJ n0 gl nt w G ρ K) Q:=by
 obtain⟨fB,ax⟩:=dQ ak p.rel;simp[step]at hs;split at hs
 .rename_i i off aj;rw[aj]at ax;have gS:=ax;cases cc:a.eval x<;>rw[cc]at gS<;>cases gS;rename_i b au;split at hs
  .rename_i cs aF;obtain⟨ay,hs⟩:=hs;simp only[aAc]at ay;replace ay:=ay.1;have ft:kv w G ρ i b (.box cs):=azo;obtain⟨v,dv,dz⟩:=Bm (show dM w G ρ b (.obj i) (.du i) cs from ft) (aAr ay) aO dB h1;refine p.value a8 bu (v:=v) ?_ (.cp dz) hs;grind[execOp,Sem.run_bind,Result.andThen_ok,Sem.run_pure]
  .exact hs.elim
 .rename_i cs off aj;rw[aj]at ax;have cw:=ax.iV;cases cc:a.eval x<;>rw[cc]at cw<;>cases cw;rename_i b base vs az j5;obtain⟨ay,hs⟩:=hs;obtain⟨v,dv,dz⟩:=afi az j5 (aAr ay) aO dB h1;refine p.value a8 bu (v:=v) ?_ (.cp (.d _ _ dz)) hs;grind[execOp,Sem.run_bind,Result.andThen_ok,Sem.run_pure]
 .exact hs.elim
def aCg:=@Array.getElem?_modify
def aBh:=@Nat.not_lt_zero
def aCz:=@Array.getElem?_setIfInBounds
def aAW:=@List.getElem?_set_self
def aAQ:=@List.getElem?_set_ne
def aBV:=@List.ext_getElem?
def aBW:=@Go.run_storeCells_cells
def aAS:=@Nat.add_zero
theorem ayB(h:p:=by simpa using h.ob.1):p:=h
theorem azp(h:p:=by have:=h.ob.at hi;rwa [au]at this):p:=h
theorem y3{b off cj:Nat}{u:Value}(h:cj≠b):(w.setCell ⟨b,off,none⟩ u).heap[cj]?=w.heap[cj]?:=by
 simp_all[World.setCell,aCg,aAt]
theorem H3{b off:Nat}{u:Value}{c:Array Value}{E:TypeId}{fz:Nat×Nat}(h:w.heap[b]?=some (.cells c E fz)):(w.setCell ⟨b,off,none⟩ u).heap[b]?=some (.cells (c.setIfInBounds off u) E fz):=by
 grind[World.setCell]
theorem H4{b off:Nat}{u:Value}:(w.setCell ⟨b,off,none⟩ u).heap.size=w.heap.size:=axX
section
variable {b off:Nat}{u:Value}{L0:Loc}(dA:G b=some (L0,0))
include dA
theorem Bn:da w G (w.setCell ⟨b,off,none⟩ u) G:=by
 refine⟨?_,?_,?_⟩;rotate_left 2
 .intro cj n h;obtain⟨c,E,fz,sh,av⟩:=h;by_cases cB:cj=b
  .subst cB;exact⟨_,E,fz,H3 sh,axY⟩
  .exact⟨c,E,fz,(y3 cB).trans sh,av⟩
 .intro cj dL v h;have cB:cj≠b:=by rintro rfl;exact absurd (h.2.1 _ _ dA) (aBh _)
  exact⟨by rw[y2 (y3 cB)];exact h.1,h.2⟩
 .intro cj o h;obtain⟨h1,av,sh⟩:=h;have cB:cj≠b:=axZ;exact⟨h1,av,(y3 cB).trans sh⟩
theorem Eh{L:Loc}(bE:L≠L0):e4 L L w G (w.setCell ⟨b,off,none⟩ u) G:=by
 intro cj n h;have cB:cj≠b:=axZ;grind[y3]
theorem Ov(wb:L0≠.foreign)(aA:∀b L n,G b=some (L,n)->b<w.heap.size):Good w G (w.setCell ⟨b,off,none⟩ u) G where
 size:=axX
 iB cj _ h:=by
  have cB:cj≠b:=axZ;grind[y3]
 new b n au dA:=absurd (aA _ _ _ dA) (aBv.2 au)
 old _ _ _ h:=h
 keep:=Bn dA
 os:=rfl
 out:=rfl
end
theorem dM.write{b off:Nat}{u:Value}{x:ah}{L:Loc}{LC:Nat->Loc}{cs:List ah}(h:dM w G ρ b L LC cs)(ak:dn w G ρ (LC off) u x)(Ow:∀j,LC j≠L):
  dM (w.setCell ⟨b,off,none⟩ u) G ρ b L LC (cs.set off x):=by
 obtain⟨c,E,fz,h1,sh,av,aW,bL⟩:=h;refine⟨c.setIfInBounds off u,E,fz,H3 h1,axY,av,axY,?_⟩;intro j v y hv wa;by_cases aK:j=off
 .subst aK;have aA:j<cs.length:=axZ;rw[aCz]at hv;simp only[if_true,show j<c.size by omega]at hv;simp at hv;rw[aAW aA]at wa;simp at wa;subst hv;subst wa;exact ak.bR (Bn av) (λ_ _ h=>h) (Eh av (Ow _))
 .rw[Array.getElem?_setIfInBounds_ne (aAt aK)]at hv;rw[aAQ (aAt aK)]at wa;exact(bL j v y hv wa).bR (Bn av) (λ_ _ h=>h) (Eh av (Ow _))
theorem bS.H5{tmps:Array Value}{t b off:Nat}{u:Value}{x:ah}{cs:List ah}(h:bS gl w G ρ lam tmps st)(au:st.bH t=some cs)(aI:lam t=some b)(ak:dn w G ρ (.rO t off) u x):
  bS gl (w.setCell ⟨b,off,none⟩ u) G ρ lam tmps (st.dX t (cs.set off x))/\Good w G (w.setCell ⟨b,off,none⟩ u) G:=by
 obtain⟨cj,tu,ft⟩:=h.bH t cs au;rw[aI]at tu;simp at tu;subst tu;have dA:G b=some (.rP t,0):=by obtain⟨_,_,_,_,_,av,_⟩:=ft;omega
 have aq:=Bn (w:=w) (off:=off) (u:=u) dA;have hs:∀L,L≠.rP t->e4 L L w G (w.setCell ⟨b,off,none⟩ u) G:=λL bE=>Eh dA bE;refine⟨⟨λs=>(h.aR s).bR aq (λ_ _ h=>h) (λ_ _ h=>h) (hs _ axX),?_,?_,h.ob.bR aq (λ_=>hs _ axX) (λ_ _=>hs _ axX),h.eU.bR aq,λb L n aC=>by rw[H4];exact h.lt _ _ _ aC⟩,
  Ov dA axX h.lt⟩
 .intro s dZ gq;simp[ag.dX,dh]at gq;by_cases eh:s=t
  .subst eh;grind[dM.write]
  .simp[eh,aAC]at gq;obtain⟨a6,h1,sh⟩:=h.bH s dZ gq;exact⟨a6,h1,dM.bR aq (λ_ _ h=>h) (hs _ axY) (λj=>hs _ axX) sh⟩
 .intro s gq;simp[ag.dX,dh]at gq;by_cases eh:s=t
  .simp_all
  .grind[nb]
theorem afk(st:ag)(t:Nat)(a b:List ah):(st.dX t a).dX t b=st.dX t b:=by
 unfold ag.dX;congr 1;grind[dh]
theorem afl{st:ag}{t:Nat}{cs:List ah}(h:st.bH t=some cs):st.dX t cs=st:=by
 unfold ag.dX;cases st with
 |mk aR bH s=>
  congr 1
  grind[dh]
theorem bS.H6{tmps:Array Value}{t b:Nat}:∀{us:List Value} {xs:List ah} {off:Nat} {cs:List ah} {w:World} {st:ag},bS gl w G ρ lam tmps st->st.bH t=some cs->lam t=some b->ck w G ρ us xs->
  bS gl (w.setCells b off us) G ρ lam tmps (st.dX t (putCells cs off xs))/\Good w G (w.setCells b off us) G
 |[],xs,off,cs,w,st,h,au,aI,ax=>by
  cases ax;rw[show putCells cs off []=cs from rfl,afl au];exact⟨h,Good.refl h.lt⟩
 |u::us,xs,off,cs,w,st,h,au,aI,ax=>by
  cases ax with
  |cons _ x _ xs ak iW=>
   obtain⟨h1,g1⟩:=h.H5 (off:=off) au aI (.cp ak);have eZ:(st.dX t (cs.set off x)).bH t=some (cs.set off x):=by simp[ag.dX,iC]
   obtain⟨sh,g2⟩:=bS.H6 (off:=off+1) h1 eZ aI (iW.keep g1.keep λ_ _ h=>h);rw[afk]at sh;exact⟨sh,g1.trans g2⟩
theorem bS.H7{tmps:Array Value}{i b off:Nat}{u:Value}{x:ah}{cs:List ah}(h:bS gl w G ρ lam tmps st)(au:st.s.getD i .dead=.box cs)(hi:ρ[i]?=some (b+1))(ak:dn w G ρ (.du i off) u x):
  bS gl (w.setCell ⟨b,off,none⟩ u) G ρ lam tmps {st with s:=st.s.set i (.box (cs.set off x))}/\Good w G (w.setCell ⟨b,off,none⟩ u) G:=by
 have ft:=azp;have dA:G b=some (.obj i,0):=by obtain⟨_,_,_,_,_,av,_⟩:=ft;omega
 have aq:=Bn (w:=w) (off:=off) (u:=u) dA;have hs:∀L,L≠.obj i->e4 L L w G (w.setCell ⟨b,off,none⟩ u) G:=λL bE=>Eh dA bE;refine⟨⟨λs=>(h.aR s).bR aq (λ_ _ h=>h) (λ_ _ h=>h) (hs _ axX),?_,h.nb,⟨ayB,?_⟩,h.eU.bR aq,λb L n aC=>by rw[H4];exact h.lt _ _ _ aC⟩,
  Ov dA axX h.lt⟩
 .intro s dZ gq;obtain⟨a6,h1,sh⟩:=h.bH s dZ gq;exact⟨a6,h1,dM.bR aq (λ_ _ h=>h) (hs _ axX) (λj=>hs _ axX) sh⟩
 .intro j a6 ob aK ct;by_cases eP:j=i
  .subst eP;rw[hi]at aK;simp at aK;obtain rfl:b=a6:=axW;have aA:j<st.s.length:=axZ;simp[aAW aA,aAe]at ct;subst ct;exact ft.write ak axX
  .simp[aAQ (aAt eP)]at ct;exact(h.ob.2 j a6 ob aK ct).bR aq (λ_ _ h=>h) (hs _ axY) (λk=>hs _ axX)
theorem afm{s:aU}{i:Nat}{cs dZ:List ah}(h:s.getD i .dead=.box cs):(s.set i (.box dZ)).getD i .dead=.box dZ:=axZ
theorem H8{s:aU}{i:Nat}{cs:List ah}(h:s.getD i .dead=.box cs):s.set i (.box cs)=s:=by
 apply aBV;grind
theorem bS.Bo{tmps:Array Value}{i b:Nat}(hi:ρ[i]?=some (b+1)):∀{us:List Value} {xs:List ah} {off:Nat} {cs:List ah} {w:World} {st:ag},bS gl w G ρ lam tmps st->st.s.getD i .dead=.box cs->ck w G ρ us xs->
  bS gl (w.setCells b off us) G ρ lam tmps {st with s:=st.s.set i (.box (putCells cs off xs))}/\Good w G (w.setCells b off us) G
 |[],xs,off,cs,w,st,h,au,ax=>by
  cases ax;rw[show putCells cs off []=cs from rfl,H8 au];exact⟨h,Good.refl h.lt⟩
 |u::us,xs,off,cs,w,st,h,au,ax=>by
  cases ax with
  |cons _ x _ xs ak iW=>
   obtain⟨h1,g1⟩:=h.H7 (off:=off) au hi (.cp ak);have eZ:({st with s:=st.s.set i (.box (cs.set off x))}:ag).s.getD i .dead=.box (cs.set off x):=afm au;obtain⟨sh,g2⟩:=bS.Bo hi (off:=off+1) h1 eZ (iW.keep g1.keep λ_ _ h=>h);simp at sh;exact⟨sh,g1.trans g2⟩
theorem Ei{b off t:Nat}{v:Value}{L:Loc}{LC:Nat->Loc}{cs:List ah}(h:dM w G ρ b L LC cs)(ay:off+v.cells.size<=cs.length)(aO:dc P t=some v.cells.size)(h1:∀u∈v.cells.toList,u.oneCell'=true):
  (Instr.storeAt t (.pointer (some ⟨b,off,none⟩)) v).run P w=.ok () (w.setCells b off v.cells.toList):=by
 obtain⟨c,E,fz,aj,aF,aZ,bP,cK⟩:=h;have:=aBW (P:=P) b off v.cells.toList 0 w
  (λj aK=>by
   rw[aAS,cell_of_block aj];grind)
  (λj aK=>by
   rw[aAS,u5 aj];have aA:off+j<c.size:=axZ;simp_all)
  h1
 simp_all[Instr.storeAt,Instr.sureAddr,storeVar,j3]
theorem Ox{v:Value}{x:ah}(h:df w G ρ v x)(az:s6 x=true):v.oneCell'=true:=by
 cases h with
 |d v y h=>cases h<;>first|rfl|grind[s6]
 |undef v=>grind[s6]
 |agg _ _ _=>grind[s6]
 |tuple _ _ _=>grind[s6]
 |fY _ _ _=>grind[s6]
 |_=>rfl
def aBs:=@List.getElem_of_mem
def aAx:=@List.all_eq_true
def aAl:=@List.getElem_mem
theorem ayC(h:p:=by grind[execOp,Sem.run_bind,Result.andThen_ok,Sem.run_pure]):p:=h
theorem ay1(h:p:=by rw[cg];exact aAr kA):p:=h
theorem ay2(h:p:=by rw[a8];exact dz):p:=h
theorem azq(h:p:=by have:=p.rel.ob.at au;rwa [aF]at this):p:=h
theorem Ej{t:Nat}{x:Operand}{y:O}(p:bT n0 gl nt w G ρ lam a st)(ak:bO P t x=some y)(fW:(cellsOf (aL gl st y)).all kn=true):
  (kill st y=st/\ck w G ρ (a.eval x).cells.toList (cellsOf (aL gl st y))/\∀u∈(a.eval x).cells.toList,u.oneCell'=true)\/
  (∃s z,y=.t s/\st.aR s=z/\kill st y=st.set s .undef/\cellsOf (aL gl st y)=[z]/\(a.eval x).cells.toList=[a.eval x]/\(a.eval x).oneCell'=true/\dn w G ρ (.slot s) (a.eval x) z):=by
 have plain:∀{z:ah},df w G ρ (a.eval x) z->(cellsOf z).all kn=true->ck w G ρ (a.eval x).cells.toList (cellsOf z)/\∀u∈(a.eval x).cells.toList,u.oneCell'=true:=by
  intro z aO gT;have ay:(cellsOf z).all (ea depth)=true:=by
   simp_all[kn]
  have bE:=aO.cells ay;refine⟨bE,?_⟩;intro u hu;obtain⟨j,aK,rfl⟩:=aBs hu;have mF:j<(cellsOf z).length:=ayw;have ax:=bE.get (aAj aK) (aAj mF);have:=(aAx.1 gT) _ (aAl mF);simp[kn,aAc]at this;exact Ox ax this.1
 rcases HS ak p.rel with⟨s,rfl,rfl⟩|⟨ay,hA⟩
 .rcases wQ st (.t s)with⟨aq,qz⟩|⟨s',gq,aq,z,aO,kY⟩
  .refine .inl ⟨aq,?_⟩;have ew:=p.rel.aR s;rcases ew.cases with AT|⟨ek,off,b,e,_,_⟩
   .rcases AT.cases with hA|⟨sz,l,e,fm⟩|⟨sz,n,us,e,fm⟩
    .exact plain hA fW
    .have:=qz s rfl;rw[e]at this;cases l<;>simp[iz,rG]at this
    grind[rG]
   grind[aL,cellsOf,kn,s6]
  .cases gq;right;have ew:=p.rel.aR s;rw[kY]at ew;have AT:dn w G ρ (.slot s) (a.tmps.getD s undef) z:=by cases z<;>simp[rG]at aO<;>exact ew
   have kz:∃cF n c,a.tmps.getD s undef=.slice cF n c:=by
    rcases AT.cases with hA|⟨ib,bC,e,eA⟩|⟨ib,n',auU,e,eA⟩
    .cases z<;>simp[rG]at aO<;>cases hv:a.tmps.getD s undef<;>rw[hv]at hA<;>cases hA;simp
    .rcases eA with⟨b,off,cap,c,E,fz,vs,h1,_⟩|⟨_,_,h1⟩<;>exact⟨_,_,_,h1⟩
    .obtain⟨b,cap,c,E,fz,vs,h1,_⟩:=eA;simp_all
   obtain⟨cF,n,c,hv⟩:=kz;have rX:a.eval (.tmp s)=.slice cF n c:=hv;refine⟨s,z,rfl,kY,aq,?_,?_,?_,?_⟩
   .show cellsOf (st.aR s)=_;rw[kY];cases z<;>simp[rG]at aO<;>rfl
   .rw[rX];rfl
   .rw[rX];rfl
   simp_all
 grind[wQ]
theorem bS.Ek{tmps:Array Value}{s:Nat}{L:Loc}(h:bS gl w G ρ lam tmps st):
  bS gl w (c8 (ff (.slot s) L) G) ρ lam tmps (st.set s .undef):=by
 have aq:da w G w (c8 (ff (.slot s) L) G):=j2 _;have hid:∀L',L'≠.slot s->e4 L' L' w G w (c8 (ff (.slot s) L) G):=λL' bE=>rR (qx bE);refine⟨?_,?_,h.nb,?_,h.eU.bR aq,rS h.lt⟩
 .intro t;simp only[ag.set,dh];by_cases aE:t=s
  .simp[aE,if_true];exact .cp (.undef _)
  .simp only[aE,aAC];exact(h.aR t).bR aq (λ_ _ h=>h) (λ_ _ h=>h) (hid _ axZ)
 .intro t cs au;obtain⟨b,h1,sh⟩:=h.bH t cs au;exact⟨b,h1,dM.bR aq (λ_ _ h=>h) (hid _ axX) (λj=>hid _ axX) sh⟩
 .exact h.ob.bR aq (λi=>hid _ axX) (λi j=>hid _ axX)
theorem afn{b off:Nat}{u:Value}:w.setCells b off [u]=w.setCell ⟨b,off,none⟩ u:=rfl
theorem afo{t tb off n t1 t2:Nat}{x y:Operand}{bA y':O}(p:bT n0 gl nt w G ρ lam a st)(a8:o.dst=none)(bz:o.op=.store t x y)(ak:bO P t1 x=some bA)(wa:bO P t2 y=some y')
  (aO:dc P t=some n) (hs:step (bx P gl) gl (.ls bA tb off y' n) st K):o.wp P a w (cJ n0 gl nt w G ρ K) Q:=by
 obtain⟨fB,ax⟩:=dQ ak p.rel;simp[step]at hs;split at hs
 .rename_i ek dL cs aj aF;obtain⟨aC,hs⟩:=hs;simp only[aAc]at aC;obtain⟨⟨⟨⟨aE,bd⟩,qB⟩,kA⟩,fW⟩:=aC;obtain rfl:ek=tb:=aAn aE;obtain rfl:dL=off:=aAn bd;have qB:=aAn qB;rw[aj]at ax;obtain⟨b,au,hv⟩:=ax;obtain⟨cj,eZ,ft⟩:=p.rel.bH ek cs aF;rw[eZ]at au;simp at au;have fC:(Instr.storeAt t (.pointer (some ⟨cj,dL,none⟩)) (a.eval y)).run P w=.ok () (w.setCells cj dL (a.eval y).cells.toList)->(execOp a.eval o).run P w=.ok .skip (w.setCells cj dL (a.eval y).cells.toList):=ayC;rcases Ej p wa fW with⟨aq,bE,h1⟩|⟨s,z,rfl,hB,aq,gU,jk,h1,AT⟩
  .have cg:(a.eval y).cells.size=n:=by grind[Array.length_toList,ck.length]
   have dv:=Ei (P:=P) (t:=t) (v:=a.eval y) ft ay1 axY h1;obtain⟨dz,dD⟩:=bS.H6 p.rel aF eZ bE;rw[aq]at hs;exact u1 (fC dv) (kV p.eO (put_defers _ _ _) ax5 G ρ lam _ ay2 dD (λ_ _ h=>h) hs)
  .have cg:(a.eval y).cells.size=n:=by grind[Array.length_toList]
   have dv:=Ei (P:=P) (t:=t) (v:=a.eval y) ft ay1 axY axY;have mG:=p.rel.Ek (s:=s) (L:=.rO ek dL);have wZ:=by
    have:=oH (w:=w) (G:=G) (ff (.slot s) (.rO ek dL)) (.slot s);rw[tg]at this;exact AT.bR (j2 _) (λ_ _ h=>h) this
   obtain⟨dz,dD⟩:=bS.H5 (off:=dL) mG (show(st.set s .undef).bH ek=some cs from aF) eZ wZ;rw[aq,gU]at hs;rw[jk]at dv fC;exact u1 (fC dv) (kV p.eO (put_defers _ _ _) ax5 _ ρ lam _ ay2 ((qy p.rel.lt axX axX).trans dD) (λ_ _ h=>h) hs)
 .exact hs.elim
theorem afp{t n t1 t2:Nat}{x y:Operand}{bA y':O}(p:bT n0 gl nt w G ρ lam a st)(a8:o.dst=none)(bz:o.op=.store t x y)(ak:bO P t1 x=some bA)(wa:bO P t2 y=some y')
  (aO:dc P t=some n) (hs:step (bx P gl) gl (.hs bA y' n) st K):o.wp P a w (cJ n0 gl nt w G ρ K) Q:=by
 obtain⟨fB,ax⟩:=dQ ak p.rel;simp only[step]at hs;split at hs
 .rename_i i off aj;rw[aj]at ax;have gS:=ax;cases cc:a.eval x<;>rw[cc]at gS<;>cases gS;rename_i b au;split at hs
  .rename_i cs aF;obtain⟨aC,hs⟩:=hs;simp only[aAc]at aC;obtain⟨⟨qB,kA⟩,fW⟩:=aC;have qB:=aAn qB;have ft:=azq;have fC:(Instr.storeAt t (.pointer (some ⟨b,off,none⟩)) (a.eval y)).run P w=.ok () (w.setCells b off (a.eval y).cells.toList)->(execOp a.eval o).run P w=.ok .skip (w.setCells b off (a.eval y).cells.toList):=ayC;rcases Ej p wa fW with⟨aq,bE,h1⟩|⟨s,z,rfl,hB,aq,gU,jk,h1,AT⟩
   .have cg:(a.eval y).cells.size=n:=by grind[Array.length_toList,ck.length]
    have dv:=Ei (P:=P) (t:=t) (v:=a.eval y) ft ay1 axY h1;obtain⟨dz,dD⟩:=bS.Bo au p.rel aF bE;rw[aq]at hs;exact u1 (fC dv) (kV p.eO (put_defers _ _ _) ax5 G ρ lam _ ay2 dD (λ_ _ h=>h) hs)
   .have cg:(a.eval y).cells.size=n:=by grind[Array.length_toList]
    have dv:=Ei (P:=P) (t:=t) (v:=a.eval y) ft ay1 axY axY;have mG:=p.rel.Ek (s:=s) (L:=.du i off);have wZ:dn w (c8 (ff (.slot s) (.du i off)) G) ρ (.du i off) (a.eval y) z:=by
     have:=oH (w:=w) (G:=G) (ff (.slot s) (.du i off)) (.slot s);rw[tg]at this;exact AT.bR (j2 _) (λ_ _ h=>h) this
    obtain⟨dz,dD⟩:=bS.H7 (off:=off) mG (show(st.set s .undef).s.getD i .dead=.box cs from aF) au wZ;rw[aq,gU]at hs;rw[jk]at dv fC;rw[afn]at dv fC;exact u1 (fC dv) (kV p.eO (put_defers _ _ _) ax5 _ ρ lam _ ay2 ((qy p.rel.lt axX axX).trans dD) (λ_ _ h=>h) hs)
  .exact hs.elim
 .exact hs.elim
theorem dM.Oy{b off:Nat}{cs:List ah}{L:Loc}{LC:Nat->Loc}{d:Nat}(h:dM w G ρ b L LC cs)(bE:L≠LC off)(cB:∀j,j≠off->LC j≠LC off)(aA:off<cs.length):
  dM w (c8 (ff (LC off) (.slot d)) G) ρ b L LC (cs.set off .undef)/\∃v,w.cell? ⟨b,off,none⟩=some v/\dn w (c8 (ff (LC off) (.slot d)) G) ρ (.slot d) v (cs.getD off .undef):=by
 have aq:da w G w (c8 (ff (LC off) (.slot d)) G):=j2 _;have hid:∀L',L'≠LC off->e4 L' L' w G w (c8 (ff (LC off) (.slot d)) G):=λL' bE=>rR (qx bE);obtain⟨c,E,fz,h1,sh,av,aW,bL⟩:=h;refine⟨⟨c,E,fz,h1,sh,(hid L bE _ _ av).2,axY,?_⟩,?_⟩
 .intro j v y hv wa;by_cases aK:j=off
  .subst aK;rw[aAW aA]at wa;simp at wa;subst wa;exact .cp (.undef _)
  .rw[aAQ (aAt aK)]at wa;exact(bL j v y hv wa).bR aq (λ_ _ h=>h) (hid _ (cB j aK))
 .have qC:=by omega
  refine⟨c[off],by rw[cell_of_block h1];simp,?_⟩;have ak:cs[off]?=some (cs.getD off .undef):=axY;have hs:=oH (w:=w) (G:=G) (ff (LC off) (.slot d)) (LC off);rw[tg]at hs;exact(bL off c[off] _ axX ak).bR aq (λ_ _ h=>h) hs
theorem Oz{b off t:Nat}{v:Value}(az:w.cell? ⟨b,off,none⟩=some v)(dB:kq P t=some false):(Instr.loadAt t (.pointer (some ⟨b,off,none⟩))).run P w=.ok v w:=by
 simp_all[Instr.loadAt,Instr.sureAddr,loadVar,wR]
theorem afq{d t tb off t1:Nat}{x:Operand}{bA:O}(p:bT n0 gl nt w G ρ lam a st)(a8:o.dst=some d)(bu:d<nt)(bz:o.op=.load t x)(ak:bO P t1 x=some bA)
  (dB:kq P t=some false) (hs:step (bx P gl) gl (.lt d bA tb off) st K):o.wp P a w (cJ n0 gl nt w G ρ K) Q:=by
 obtain⟨fB,ax⟩:=dQ ak p.rel;simp[step]at hs;split at hs
 .rename_i ek dL cs aj aF;obtain⟨aC,hs⟩:=hs;simp only[aAc]at aC;obtain⟨⟨aE,bd⟩,ay⟩:=aC;obtain rfl:ek=tb:=aAn aE;obtain rfl:dL=off:=aAn bd;have aA:dL<cs.length:=axY;rw[aj]at ax;obtain⟨b,au,hv⟩:=ax;obtain⟨cj,eZ,ft⟩:=p.rel.bH ek cs aF;rw[eZ]at au;simp at au;obtain⟨OA,v,az,AT⟩:=ft.Oy (d:=d) (off:=dL) axX axX aA;have aq:da w G w (c8 (ff (.rO ek dL) (.slot d)) G):=j2 _;have hid:∀L',L'≠.rO ek dL->e4 L' L' w G w (c8 (ff (.rO ek dL) (.slot d)) G):=λL' bE=>rR (qx bE);have dz:bS gl w (c8 (ff (.rO ek dL) (.slot d)) G) ρ lam a.tmps (st.dX ek (cs.set dL .undef)):=by
   refine⟨λs=>(p.rel.aR s).bR aq (λ_ _ h=>h) (λ_ _ h=>h) (hid _ axX),?_,?_,p.rel.ob.bR aq (λ_=>hid _ axX) (λ_ _=>hid _ axX),p.rel.eU.bR aq,rS p.rel.lt⟩
   .intro s dZ gq;simp[ag.dX,dh]at gq;by_cases eh:s=ek
    .simp_all
    .simp[eh,aAC]at gq;obtain⟨a6,h1,sh⟩:=p.rel.bH s dZ gq;exact⟨a6,h1,dM.bR aq (λ_ _ h=>h) (hid _ axX) (λj=>hid _ axY) sh⟩
   .intro s gq;simp[ag.dX,dh]at gq;by_cases eh:s=ek
    .simp_all
    .simp[eh,aAC]at gq;exact p.rel.nb s gq
  refine gb (v:=v) ?_ (nW dz p.eO p.sz bu (qy p.rel.lt axX axX) (λ_ _ h=>h) a8 (.lV AT) hs);simp_all[execOp,Oz]
 .exact hs.elim
theorem afr{d t t1:Nat}{x:Operand}{bA:O}(p:bT n0 gl nt w G ρ lam a st)(a8:o.dst=some d)(bu:d<nt)(bz:o.op=.load t x)(ak:bO P t1 x=some bA)
  (dB:kq P t=some false) (hs:step (bx P gl) gl (.aE d bA) st K):o.wp P a w (cJ n0 gl nt w G ρ K) Q:=by
 obtain⟨fB,ax⟩:=dQ ak p.rel;simp only[step]at hs;split at hs
 .rename_i i off aj;rw[aj]at ax;have gS:=ax;cases cc:a.eval x<;>rw[cc]at gS<;>cases gS;rename_i b au;split at hs
  .rename_i cs aF;obtain⟨aC,hs⟩:=hs;have aA:off<cs.length:=axY;have ft:=azq;obtain⟨OA,v,az,AT⟩:=ft.Oy (d:=d) (off:=off) axX axX aA;have aq:da w G w (c8 (ff (.du i off) (.slot d)) G):=j2 _;have hid:∀L',L'≠.du i off->e4 L' L' w G w (c8 (ff (.du i off) (.slot d)) G):=λL' bE=>rR (qx bE);have dz:bS gl w (c8 (ff (.du i off) (.slot d)) G) ρ lam a.tmps {st with s:=st.s.set i (.box (cs.set off .undef))}:=by
    refine⟨λs=>(p.rel.aR s).bR aq (λ_ _ h=>h) (λ_ _ h=>h) (hid _ axX),?_,p.rel.nb,⟨by simpa using p.rel.ob.1,?_⟩,p.rel.eU.bR aq,rS p.rel.lt⟩
    .intro s dZ gq;obtain⟨a6,h1,sh⟩:=p.rel.bH s dZ gq;exact⟨a6,h1,dM.bR aq (λ_ _ h=>h) (hid _ axX) (λj=>hid _ axX) sh⟩
    .intro j a6 ob aK ct;by_cases eP:j=i
     .subst eP;rw[au]at aK;simp at aK;obtain rfl:b=a6:=axW;have afs:j<st.s.length:=axZ;simp[aAW afs,aAe]at ct;subst ct;exact OA
     .simp[aAQ (aAt eP)]at ct;exact(p.rel.ob.2 j a6 ob aK ct).bR aq (λ_ _ h=>h) (hid _ axX) (λk=>hid _ axY)
   refine gb (v:=v) ?_ (nW dz p.eO p.sz bu (qy p.rel.lt axX axX) (λ_ _ h=>h) a8 (.lV AT) hs);simp_all[execOp,Oz]
  .exact hs.elim
 .exact hs.elim
def aCT:=@List.foldl_cons
def aBm:=@List.length_set
def aAg:=@cond_true
theorem aft{d t f n t1:Nat}{ai:Bool}{x:Operand}{bA:O}{fs:Array Field}{gR:Field}(p:bT n0 gl nt w G ρ lam a st)(a8:o.dst=some d)(bu:d<nt)(bz:o.op=.field t x f)(ak:bO P t1 x=some bA)
  (hu:P.underlying t=some (.struct fs)) (bh:fs[f]?=some gR) (aO:dc P gR.type=some n) (dB:kq P gR.type=some ai) (j6:ai=false->n=1)
  (hs:step (bx P gl) gl (.fd d bA gR.offset n ai) st K):o.wp P a w (cJ n0 gl nt w G ρ K) Q:=by
 obtain⟨fB,h1⟩:=dQ ak p.rel;obtain⟨aC,hs⟩:=hs;simp only[aAc]at aC;obtain⟨iH,ay⟩:=aC;have ay:=aAr ay;have H9:∃vs,a.eval x=.agg ⟨vs⟩/\ck w G ρ vs (cellsOf (aL gl st bA)):=by
  cases he:aL gl st bA<;>rw[he]at h1 iH<;>simp[wI]at iH;case agg cs=>
   have cw:=h1;cases hv:a.eval x<;>rw[hv]at cw<;>cases cw;rename_i vs h;exact⟨vs,rfl,h⟩
  case d y=>
   cases y<;>simp at iH;have cw:=h1.iV;cases hv:a.eval x<;>rw[hv]at cw<;>cases cw;rename_i vs h;exact⟨vs,rfl,h.D4⟩
 obtain⟨vs,hv,bE⟩:=H9;have aI:=bE.length;cases ai with
 |true=>
  refine p.value a8 bu (v:=.agg ((⟨vs⟩:Array Value).extract gR.offset (gR.offset+n))) ?_ (.cp (x:=valOf (cellsOf (aL gl st bA)) gR.offset n true) ?_) hs
  .simp[execOp,bz,hv,Instr.field,aAm,eV hu,aAo,bh,asAgg,aAv,part,wR dB,if_true,j3 aO]
  .have:(⟨vs⟩:Array Value).extract gR.offset (gR.offset+n)=⟨(vs.drop gR.offset).take n⟩:=by
    simp
   rw[this];exact D5 (LC:=λ_=>.res) axZ λj v y av aW=>.cp (((bE.drop _).take _).get av aW)
 |false=>
  obtain rfl:=j6 rfl;have aA:gR.offset<vs.length:=axW;have aC:(⟨vs⟩:Array Value)[gR.offset]?=some vs[gR.offset]:=axX;refine p.value a8 bu (v:=vs[gR.offset]) ?_ (.cp (x:=valOf (cellsOf (aL gl st bA)) gR.offset 1 false) ?_) hs
  .simp only[execOp,bz,hv,Instr.field,aAm,eV hu,aAo,bh,asAgg,aAv,part,wR dB,aA5,aAC,aC]
  .have kY:(cellsOf (aL gl st bA))[gR.offset]?=some ((cellsOf (aL gl st bA)).getD gR.offset .undef):=by grind
   have ax:=bE.get (aAj aA) kY;exact(dn.cp (L:=.res) ax).snap
theorem afu:∀{us:List Value} {xs:List ah} {off:Nat} {vs:List Value} {cs:List ah},ck w G ρ us xs->ck w G ρ vs cs->
  ∃qD,ck w G ρ qD (putCells cs off xs)/\qD=(us.zipIdx.foldl (λ(c:Array Value) (p:Value×Nat)=>c.setIfInBounds (off+p.2) p.1) ⟨vs⟩).toList:=by
 intro us;suffices h:∀(us:List Value) (k:Nat) (xs:List ah) (off:Nat) (vs:List Value) (cs:List ah),ck w G ρ us xs->ck w G ρ vs cs->
   ck w G ρ (((us.zipIdx k).foldl (λ(c:Array Value) (p:Value×Nat)=>c.setIfInBounds (off+p.2) p.1) ⟨vs⟩).toList) (putCells cs (off+k) xs)from
  λ{xs off vs cs} h1 sh=>⟨_,by simpa using h us 0 xs off vs cs h1 sh,rfl⟩
 intro us;induction us with
 |nil=>intro k xs off vs cs h1 sh;cases h1;simp_all[putCells]
 |cons u us ih=>
  intro k xs off vs cs h1 sh;cases h1 with
  |cons _ x _ xs ak iW=>
   simp[List.zipIdx_cons,aCT,putCells];have av:ck w G ρ (vs.set (off+k) u) (cs.set (off+k) x):=by
    refine .mk (by simp[sh.length]) λj v y hv wa=> ?_;by_cases aK:j=off+k
    .grind
    .grind[ck.get]
   have aW:=ih (k+1) xs off (vs.set (off+k) u) (cs.set (off+k) x) iW av;grind
theorem afv:∀{xs:List ah} {off:Nat} {cs:List ah},(putCells cs off xs).length=cs.length
 |[],_,_=>rfl
 |x::xs,off,cs=>by simp[putCells,afv,aBm]
theorem OB{place:Nat->Option (Nat×Nat)}(p:bT n0 gl nt w G ρ lam a st):∀{ps:List (Nat×Operand)} {dN:List (Nat×Nat×O)} {cs dZ:List ah} {vs:List Value},
  h4 (λ(q:Nat×Operand) (r:Nat×Nat×O)=>place q.1=some (r.1,r.2.1)/\∃t,bO P t q.2=some r.2.2) ps dN->ck w G ρ vs cs->pj gl st cs dN=some dZ->
  ∃qD,Instr.fill place ⟨vs⟩ (ps.map λq=>(q.1,a.eval q.2))=some ⟨qD⟩/\ck w G ρ qD dZ
 |[],_,cs,dZ,vs,h,ax,bh=>by
  cases h;simp[pj,aAe]at bh;subst bh;exact⟨vs,rfl,ax⟩
 |(i,x)::ps,_,cs,dZ,vs,h,ax,bh=>by
  cases h with
  |cons aS h=>
   rename_i r dN;obtain⟨off,n,bA⟩:=r;obtain⟨lY,t,ak⟩:=aS;simp[pj]at bh;cases aC:(Nat.beq (cellsOf (cT (snap (aL gl st bA)))).length n&&Nat.ble (off+n) cs.length&&(cellsOf (cT (snap (aL gl st bA)))).all (ea depth))with
   |false=>simp_all
   |true=>
    simp[aC,aAg]at bh;simp only[aAc]at aC;obtain⟨⟨lv,fD⟩,mH⟩:=aC;have lv:=aAn lv;have fD:=aAr fD;have ew:=(yX (L:=.res) ak p.rel).cT (L':=.res);have hA:df w G ρ (a.eval x) (cT (snap (aL gl st bA))):=by
     rcases ew.cases with h|⟨ek,o',b,e,_,_⟩
     all_goals grind[HM,HN,cellsOf,ea,dn.cases]
    have bE:=hA.cells mH;obtain⟨pB,rT,aj⟩:=afu (off:=off) bE ax;obtain⟨qD,sh,av⟩:=OB p h rT bh;refine⟨qD,?_,av⟩;simp only[aAP,Instr.fill,lY];have cg:(a.eval x).cells.size=n:=by grind[Array.length_toList,ck.length]
    have oJ:=ax.length;have y4:((a.eval x).cells.size≠n||off+(a.eval x).cells.size>(⟨vs⟩:Array Value).size)=false:=axY;rw[aAG axY];rw[<-sh,aj,<-Array.foldl_toList];simp
def aBx:=@List.getElem?_toArray
theorem aym(h:p:=by rw[cc];rfl):p:=h
theorem ayS(h:p:=by rw[cc];exact heq _):p:=h
theorem ay3(h:p:=by simp[Op.equalIn,eV hu]):p:=h
theorem rY{α β:Type}{f:α->Option β}:∀{l:List α} {bC:List β},l.mapM f=some bC->h4 (λx y=>f x=some y) l bC
 |[],bC,h=>by simp at h;subst h;exact .nil
 |x::l,bC,h=>by
  cases ak:f x with
  |none=>simp[ak]at h
  |some y=>
   cases aI:l.mapM f with
   |none=>simp[ak,aI]at h
   |some ys=>
    simp[ak,aI]at h;subst h;exact .cons ak (rY aI)
theorem mapM_some{α β:Type}{f:α->Option β}:∀{l:List α},(∀x,x∈l->∃y,f x=some y)->∃bC,l.mapM f=some bC
 |[],_=>⟨[],rfl⟩
 |x::l,h=>by
  obtain⟨y,wa⟩:=h x axX;obtain⟨bC,aI⟩:=mapM_some (l:=l) λz aO=>h z axZ;simp_all
theorem H'{α β:Type}{f:α->Option β}:∀{l:List α} {bC:List β} {i:Nat} {x:α},l.mapM f=some bC->l[i]?=some x->∃y,bC[i]?=some y/\f x=some y
 |[],_,_,_,_,h=>axZ
 |z::l,bC,i,x,h,hi=>by
  cases ak:f z with
  |none=>simp_all
  |some y=>
   cases aI:l.mapM f with
   |none=>simp_all
   |some ys=>
    simp[ak,aI]at h;subst h;cases i with
    |zero=>simp_all
    |succ i=>
     obtain⟨y',h1,sh⟩:=H' aI hi;simp_all
theorem h4.imp{α β:Type}{R S:α->β->Prop}(hi:∀x y,R x y->S x y):∀{l:List α} {bC:List β},h4 R l bC->h4 S l bC
 |_,_,.nil=>.nil
 |_,_,.cons h t=>.cons (hi _ _ h) (t.imp hi)
theorem info_of_underlying{t:Nat}{d:TypeDesc}(h:P.underlying t=some d):∃i,P.info? t=some i:=by
 grind[Program.underlying]
theorem OC{n t:Nat}{z:List ah}(h:oE P n t=some z):∃i,P.info? t=some i:=by
 cases n with
 |zero=>grind[oE]
 |succ n=>
  grind[oE,info_of_underlying]
theorem afw{t:Nat}{z:List ah}(h:zeros P t=some z):oE P 20 t=some z:=by
 unfold zeros at h;cases h1:oE P 20 t with
 |none=>simp_all
 |some cs=>
  cases sh:P.info? t with
  |none=>simp_all
  |some i=>
   cases av:i.zero with
   |none=>simp_all
   |some v=>
    simp_all
theorem afx{t:Nat}{z:List ah}{i:TypeInfo}{v:Value}(aO:zeros P t=some z)(hi:P.info? t=some i)(hv:i.zero=some v){ps:List (Nat×Value)}{cs:Array Value}
  (bh:Instr.fill (partOf P t) v.cells ps=some cs) (eh:∃d,P.underlying t=some d/\d.isRow=true):P.built t ps=some cs:=by
 obtain⟨d,hu,aY⟩:=eh;have Ia:=afw aO;cases d with
 |struct fs=>
  have gT:∃places,fs.toList.mapM (λf=>(P.info? f.type).map λi=>(f.offset,i.size))=some places:=by
   unfold oE at Ia;cases hm:fs.toList.mapM λf=>oE P 19 f.type with
   |none=>simp_all
   |some l=>
    refine mapM_some λf bh=> ?_;obtain⟨j,aK⟩:=List.getElem?_of_mem bh;obtain⟨y,_,wa⟩:=H' hm aK;obtain⟨ii,qE⟩:=OC wa;simp_all
  obtain⟨places,hp⟩:=gT;unfold Program.built;have lY:(λx=>places.toArray[x]?)=partOf P t:=by
   funext k;unfold partOf;cases aq:fs[k]? with
   |none=>
    have:places.length=fs.toList.length:=by
     have:=rY hp;clear hp;generalize fs.toList=l at this;induction this with
     |nil=>rfl
     |cons _ _ ih=>grind
    simp_all
   |some f=>
    have afy:fs.toList[k]?=some f:=axY;obtain⟨y,h1,sh⟩:=H' hp afy;simp[aBx,h1,dc];cases qE:P.info? f.type with
    |none=>simp_all
    |some ii=>simp_all
  simp_all
 |array n e=>
  have n2:=by
   unfold oE at Ia;simp at Ia;cases hm:oE P 19 e with
   |none=>simp_all
   |some l=>exact OC hm
  obtain⟨OD,n2⟩:=n2;unfold Program.built;simp;have lY:(λx=>some (x*OD.size,OD.size))=partOf P t:=by
   grind[partOf,dc]
  simp_all
 |_=>simp_all
theorem afz{d t:Nat}{z:List ah}{ps:Array (Nat×Operand)}{dN:List (Nat×Nat×O)}(p:bT n0 gl nt w G ρ lam a st)(a8:o.dst=some d)(bu:d<nt)(bz:o.op=.build t ps)(aO:zeros P t=some z)
  (eh:∃d,P.underlying t=some d/\d.isRow=true)
  (aS:h4 (λ(q:Nat×Operand) (r:Nat×Nat×O)=>partOf P t q.1=some (r.1,r.2.1)/\∃t,bO P t q.2=some r.2.2) ps.toList dN)
  (hs:step (bx P gl) gl (.wE d z dN) st K):o.wp P a w (cJ n0 gl nt w G ρ K) Q:=by
 obtain⟨i,v,h1,sh,av,aW,bL⟩:=n1 aO;simp[step]at hs;split at hs
 .rename_i cs bh;obtain⟨qD,aj,aF⟩:=OB p aS bL bh;have au:P.built t (ps.map λq=>(q.1,a.eval q.2)).toList=some ⟨qD⟩:=by
   simp_all[afx]
  refine p.value a8 bu (v:=.agg ⟨qD⟩) ?_ (.cp (.agg _ _ aF)) hs;grind[execOp,Sem.run_bind,run_build,Result.andThen_ok,Sem.run_pure]
 .exact hs.elim
theorem El{xs:List Operand}{ys:List O}(p:bT n0 gl nt w G ρ lam a st)(h:h4 (λx y=>∃t,bO P t x=some y) xs ys)(ay:(ys.map λx=>cT (snap (aL gl st x))).all (ea depth)=true):
  ck w G ρ (xs.map a.eval) (ys.map λx=>cT (snap (aL gl st x))):=by
 induction h with
 |nil=>exact .nil
 |@cons x y xs ys ak _ ih=>
  obtain⟨t,ak⟩:=ak;simp only[aAP,aB5,aAc]at ay⊢;refine .cons _ _ _ _ ?_ (ih ay.2);have ew:=(yX (L:=.res) ak p.rel).cT (L':=.res);rcases ew.cases with h|⟨ek,o',b,e,_,_⟩
  all_goals grind[HM,HN,ea,dn.cases]
theorem afA{d f:Nat}{xs cs:Array Operand}{ys zs:List O}(p:bT n0 gl nt w G ρ lam a st)(a8:o.dst=some d)(bu:d<nt)(bz:o.op=.makeFunc (.func f) xs cs)
  (ak:h4 (λx y=>∃t,bO P t x=some y) xs.toList ys) (az:h4 (λx y=>∃t,bO P t x=some y) cs.toList zs)
  (hs:step (bx P gl) gl (.wG d f ys zs) st K):o.wp P a w (cJ n0 gl nt w G ρ K) Q:=by
 have ax:(execOp a.eval o).run P w=.ok (.value (.func (.func f) (xs.map a.eval) (cs.map a.eval))) w:=by
  simp_all[execOp,Instr.makeFunc]
 simp only[step]at hs;split at hs
 .have aj:xs= #[]:=by cases aI:xs.toList with|nil=>simp_all|cons q dN=>rw[aI]at ak;cases ak
  have aF:cs= #[]:=by cases aI:cs.toList with|nil=>simp_all|cons q dN=>rw[aI]at az;cases az
  rw[aj,aF,Array.map_empty]at ax;exact p.value a8 bu ax (.cp (.d _ _ (.fn f))) hs
 .obtain⟨aC,hs⟩:=hs;simp only[aAc]at aC;refine p.value a8 bu ax (.cp ?_) hs;have h1:=El p ak aC.1;have sh:=El p az aC.2;have aj:xs.map a.eval=⟨xs.toList.map a.eval⟩:=axZ;have aF:cs.map a.eval=⟨cs.toList.map a.eval⟩:=axZ;rw[aj,aF];exact .func _ _ _ _ _ h1 sh
theorem di.wJ{v:Value}{x:ah}{sz:Nat}{l:List D}{L:Loc}(h:di w G ρ lam L v x)(aI:wJ x=some (sz,l)):∃cF n cap,v=.slice cF n cap/\(l≠[]->cF≠none):=by
 unfold aH.wJ at aI;split at aI
 .rename_i i off len cap sz;have cG:=h;cases cG;simp
 all_goals first
  |(simp at aI;done)
  |(obtain⟨rfl,rfl⟩:=aI
    obtain⟨cF,cap,v1,_,ky⟩:=(h.hr rfl).slice;grind)
theorem afB{d:Nat}{x z:Operand}{bA:O}{t u t1 ho:Nat}{neg:Bool}{desc:TypeDesc}(p:bT n0 gl nt w G ρ lam a st)(a8:o.dst=some d)(bu:d<nt)
  (bz:o.op=.binOp (if neg then .neq else .eql) t x z u) (ak:bO P t1 x=some bA) (hu:P.underlying t=some desc) (aq:yN desc z=some ho)
  (hs:step (bx P gl) gl (.mA d neg ho bA) st K):o.wp P a w (cJ n0 gl nt w G ρ K) Q:=by
 obtain⟨fB,h1⟩:=dQ ak p.rel;have fin:∀(b:Bool) (eg:Value),a.eval z=eg->(eg=.slice none 0 0\/eg=.map none\/eg=.nilFunc\/eg=.pointer none)->(Op.equal t (a.eval x) eg).run P w=.ok b w->(a.eval x).oneCell'=true->a.eval x≠.nilIface->(∀k n,a.eval x≠.int k n)->(∀s,a.eval x≠.string s)->
   K (st.set d (.d (.bool (cond neg (!b) b))))->o.wp P a w (cJ n0 gl nt w G ρ K) Q:=by
  intro b eg n3 aO au sh av aW bL ao;refine p.value a8 bu (v:=.bool (cond neg (!b) b)) ?_ (.cp (.d _ _ (.bool _))) ao;have aC:=HT (P:=P) (w:=w) (op:=if neg then .neq else .eql) (t:=t) (x:=x) (y:=z) (v:=eg) sh av;have key:binOp .eql t (a.eval x) eg=(Op.equal t (a.eval x) eg>>= λb=>pure (.bool b))/\binOp .neq t (a.eval x) eg=(Op.equal t (a.eval x) eg>>= λb=>pure (.bool (!b))):=by
   rcases aO with rfl|rfl|rfl|rfl<;>(cases hv:a.eval x with
    |int k n=>simp_all
    |string s=>simp_all
    |_=>exact⟨rfl,rfl⟩)
  cases neg
  .simp_all[execOp]
  simp_all[execOp]
 have afC:∀{q:Prop},(cond neg (!false) false=neg):=λ{_}=>axX;have auV:∀{q:Prop},(cond neg (!true) true=!neg):=λ{_}=>axX;unfold yN at aq;split at aq
 ·
  simp at aq;subst aq;simp[step]at hs;have heq:∀(cF:Option Addr) (n c:Nat),(Op.equal t (.slice cF n c) (.slice none 0 0)).run P w=.ok cF.isNone w:=by
   intro cF n c;have:∀k,(Op.equalIn (k+1) t (.slice cF n c) (.slice none 0 0)).run P w=.ok cF.isNone w:=λk=>by
    cases cF<;>simp[Op.equalIn,eV hu]
   exact this 9999
  split at hs
  .rename_i sz q dN aj;obtain⟨cF,n,cap,v1,ky⟩:=h1.wJ aj;obtain⟨cF,rfl⟩:=Option.ne_none_iff_exists'.1 (ky axX);exact fin false _ rfl (.inl rfl) (by rw[v1];exact heq _ _ _) (by rw[v1];rfl) axY axY axY axY
  .rename_i sz aj;obtain⟨cF,n,cap,v1,ky⟩:=h1.wJ aj;cases ay:cF.isNone with
   |true=>exact fin true _ rfl (.inl rfl) (by rw[v1,<-ay];exact heq _ _ _) (by rw[v1];rfl) axY axY axY (by exact hs.2)
   |false=>exact fin false _ rfl (.inl rfl) (by rw[v1,<-ay];exact heq _ _ _) (by rw[v1];rfl) axY axY axY (by rw[afC (q:=True)];exact hs.1)
  .exact hs.elim
 .simp at aq;subst aq;simp[step]at hs;have heq:∀(r:Option Nat),(Op.equal t (.map r) (.map none)).run P w=.ok r.isNone w:=by
   intro r;have:∀k,(Op.equalIn (k+1) t (.map r) (.map none)).run P w=.ok r.isNone w:=λk=>by
    cases r<;>simp[Op.equalIn,eV hu]
   exact this 9999
  split at hs
  .rename_i i aj;rw[aj]at h1;have cw:=h1;cases cc:a.eval x<;>rw[cc]at cw<;>cases cw;exact fin false _ rfl (.inr (.inl rfl)) ayS aym axY axY axY axY
  .rename_i aj;rw[aj]at h1;have cw:=h1.iV;cases cc:a.eval x<;>rw[cc]at cw<;>cases cw;exact fin true _ rfl (.inr (.inl rfl)) ayS aym axY axY axY axY
  .exact hs.elim
 .simp at aq;subst aq;simp[step]at hs;have heq:∀(fn:Fn) (b c:Array Value),(Op.equal t (.func fn b c) .nilFunc).run P w=.ok false w:=by
   intro fn b c;have:∀k,(Op.equalIn (k+1) t (.func fn b c) .nilFunc).run P w=.ok false w:=λk=>ay3;exact this 9999
  have afD:=by
   have:∀k,(Op.equalIn (k+1) t .nilFunc .nilFunc).run P w=.ok true w:=λk=>ay3;exact this 9999
  split at hs
  .rename_i f fp cs aj;rw[aj]at h1;have cw:=h1;cases cc:a.eval x<;>rw[cc]at cw<;>cases cw;exact fin false _ rfl (.inr (.inr (.inl rfl))) (by rw[cc];exact heq _ _ _) aym axY axY axY axY
  .rename_i f aj;rw[aj]at h1;have cw:=h1.iV;cases cc:a.eval x<;>rw[cc]at cw<;>cases cw;exact fin false _ rfl (.inr (.inr (.inl rfl))) (by rw[cc];exact heq _ _ _) aym axY axY axY axY
  .rename_i aj;rw[aj]at h1;have cw:=h1.iV;cases cc:a.eval x<;>rw[cc]at cw<;>cases cw;exact fin true _ rfl (.inr (.inr (.inl rfl))) (by rw[cc];exact afD) aym axY axY axY axY
  .exact hs.elim
 .simp at aq;subst aq;simp[step]at hs;have heq:∀(r:Option Addr),(Op.equal t (.pointer r) (.pointer none)).run P w=.ok r.isNone w:=by
   intro r;have:∀k,(Op.equalIn (k+1) t (.pointer r) (.pointer none)).run P w=.ok r.isNone w:=λk=>by
    cases r<;>simp[Op.equalIn,eV hu]
   exact this 9999
  split at hs
  .rename_i i off aj;rw[aj]at h1;have cw:=h1;cases cc:a.eval x<;>rw[cc]at cw<;>cases cw;exact fin false _ rfl (.inr (.inr (.inr rfl))) ayS aym axY axY axY axY
  .rename_i cs off aj;rw[aj]at h1;have cw:=h1.iV;cases cc:a.eval x<;>rw[cc]at cw<;>cases cw;exact fin false _ rfl (.inr (.inr (.inr rfl))) ayS aym axY axY axY axY
  .rename_i aj;rw[aj]at h1;have cw:=h1.iV;cases cc:a.eval x<;>rw[cc]at cw<;>cases cw;exact fin true _ rfl (.inr (.inr (.inr rfl))) ayS aym axY axY axY axY
  .exact hs.elim
 .simp at aq;subst aq;simp[step]at hs;have aO:a.eval (.const .nilIface)=.nilIface:=rfl;have auW:∀(b:Bool),(Op.equal t (a.eval x) .nilIface).run P w=.ok b w->(a.eval x=.nilIface\/∃t v,a.eval x=.iface t v)->K (st.set d (.d (.bool (cond neg (!b) b))))->o.wp P a w (cJ n0 gl nt w G ρ K) Q:=by
   intro b au az ao;refine p.value a8 bu (v:=.bool (cond neg (!b) b)) ?_ (.cp (.d _ _ (.bool _))) ao;have aC:(eqGuard (if neg then .neq else .eql) t x (.const .nilIface) (a.eval x) .nilIface).run P w=.ok () w:=by
    rcases az with az|⟨t2,v2,az⟩
    all_goals simp_all[eqGuard]
   have key:binOp .eql t (a.eval x) .nilIface=(Op.equal t (a.eval x) .nilIface>>= λb=>pure (.bool b))/\binOp .neq t (a.eval x) .nilIface=(Op.equal t (a.eval x) .nilIface>>= λb=>pure (.bool (!b))):=by
    rcases az with az|⟨t2,v2,az⟩<;>rw[az]<;>exact⟨rfl,rfl⟩
   cases neg
   .simp at bz aC;simp[execOp,bz,aO,aAm,aC,aAo,key.1,au,aAv,aAw]
   .simp at bz aC;simp[execOp,bz,aO,aAm,aC,aAo,key.2,au,aAv,aAg]
  have b2:(Op.equal t .nilIface .nilIface).run P w=.ok true w:=by
   have:∀k,(Op.equalIn (k+1) t .nilIface .nilIface).run P w=.ok true w:=λk=>ay3;exact this 9999
  have aj:∀t2 v2,(Op.equal t (.iface t2 v2) .nilIface).run P w=.ok false w:=by
   intro t2 v2;have:∀k,(Op.equalIn (k+1) t (.iface t2 v2) .nilIface).run P w=.ok false w:=λk=>ay3;exact this 9999
  split at hs
  .rename_i t2 cr ee;rw[ee]at h1;have cw:=h1.iV;generalize cc:a.eval x=v1 at cw;cases cw;simp_all
  .rename_i ee;rw[ee]at h1;have cw:=h1.iV;generalize cc:a.eval x=v1 at cw;cases cw;simp_all
  .rename_i ee;rw[ee]at h1;have cw:=h1.iV;generalize cc:a.eval x=v1 at cw;cases cw;simp_all
  .exact hs.elim
 simp_all
def aAM:=@List.mem_of_getElem?
def aCh:=@List.mem_flatMap
theorem ayn(h:p:=by grind[qA,cl.length]):p:=h
theorem ayo(h:p:=by grind[dc]):p:=h
theorem Rd.OE{v:Value}{d:D}(h:Rd w G v d):cl w G v.cells.toList d.cells:=by
 cases h with
 |agg vs cs h=>exact h
 |bool b=>exact .cons _ _ _ _ (.bool b) .nil
 |int k n=>exact .cons _ _ _ _ (.int k n) .nil
 |str s l h=>exact .cons _ _ _ _ (.str s l h) .nil
 |dP=>exact .cons _ _ _ _ .dP .nil
 |hS=>exact .cons _ _ _ _ .hS .nil
 |ll=>exact .cons _ _ _ _ .ll .nil
 |iy=>exact .cons _ _ _ _ .iy .nil
 |fn f=>exact .cons _ _ _ _ (.fn f) .nil
 |iface t v x h=>exact .cons _ _ _ _ (.iface t v x h) .nil
 |kT a c s=>exact .cons _ _ _ _ (.kT a c s) .nil
 |list b off n cap sz l vs h1 sh av aW bL=>exact .cons _ _ _ _ (.list b off n cap sz l vs h1 sh av aW bL) .nil
 |e1 b base off vs cs h1 sh=>exact .cons _ _ _ _ (.e1 b base off vs cs h1 sh) .nil
 |hT t v=>exact .cons _ _ _ _ (.hT t v) .nil
 |ln b td tf kl vl ks vs h1 sh av aW=>exact .cons _ _ _ _ (.ln b td tf kl vl ks vs h1 sh av aW) .nil
theorem OG{vs us:List Value}{E:TypeId}{fz:Nat×Nat}{L0:Loc}{m:Nat}(hw:gD w (.cells ⟨vs++us⟩ E fz) w')(hm:vs.length=m)(h1:∀v,v∈vs->v.oneCell'=true):iT w' (fP w G L0 m) w.heap.size 0 vs:=by
 intro j v hv;have aK:j<vs.length:=axZ;refine⟨?_,?_,h1 v (aAM hv)⟩
 .rw[aA2,cell_of_block hw.new];grind
 .intro L n dA;simp_all[fP,iC]
theorem Ib{sz d:Nat}{l:List D}{vs us:List Value}{E:TypeId}{fz:Nat×Nat}{cap:Nat}(hw:gD w (.cells ⟨vs++us⟩ E fz) w')(cg:0<sz)(aI:∀x,x∈l->x.cells.length=sz)(cB:l≠[])
  (ax:cl w G vs (l.flatMap D.cells)) (iF:l.length<=cap) (az:(vs++us).length=cap*sz) (aDm:∀j,j<(vs++us).length->¬(fz.1<=j/\j<fz.2)) (h1:∀v,v∈vs->v.oneCell'=true):
  dn w' (fP w G (.slot d) (l.length*sz)) ρ (.slot d) (.slice (some ⟨w.heap.size,0,none⟩) l.length cap) (.own sz l):=by
 obtain⟨x,l,rfl⟩:=List.exists_cons_of_ne_nil cB;have hlen:vs.length=(x::l).length*sz:=ayn;exact⟨w.heap.size,0,cap,⟨vs++us⟩,E,fz,vs,rfl,iF,hw.new,aDm,axY,cg,by rw[fP,iC,aA2],aI,OG hw hlen h1,ax.keep hw.keeps⟩
theorem Rd.Em{v:Value}{d:D}(h:Rd w G v d)(h1:jA d=true):v.oneCell'=true:=by
 cases h<;>first|rfl|grind[jA]
theorem OH{vs:List Value}{l:List D}(h:cl w G vs (l.flatMap D.cells))(h1:∀d,d∈l->d.cells.all jA=true):∀v,v∈vs->v.oneCell'=true:=by
 intro v hv;obtain⟨j,aK,rfl⟩:=aBs hv;have mF:j<(l.flatMap D.cells).length:=by grind[cl.length]
 have ax:=h.get (aAj aK) (aAj mF);have hm:=aAl mF;obtain⟨d,aY,hm⟩:=aCh.1 hm;exact ax.Em ((aAx.1 (h1 d aY)) _ hm)
theorem Bp{L0:Loc}{m d:Nat}{ob:Obj}{v:Value}{x:ah}{cI:ag}(p:bT n0 gl nt w G ρ lam a st)(dz:bS gl w G ρ lam a.tmps cI)(hw:gD w ob w')(wb:L0≠.foreign)(a8:o.dst=some d)(bu:d<nt)
  (hv:di w' (fP w G L0 m) ρ lam (.slot d) v x) (ao:K (cI.set d x)):cJ n0 gl nt w G ρ K (a.put o.dst v) w':=
 nW (hw.rel (L0:=L0) (n0:=m) p.rel.lt dz) p.eO p.sz bu (hw.good p.rel.lt wb) (λ_ _ h=>h) a8 hv ao
theorem OI{sz:Nat}(p:bT n0 gl nt w G ρ lam a st):∀{xs:List Operand} {ys:List O} {l:List D},h4 (λx y=>∃t,bO P t x=some y) xs ys->elems gl st sz ys=some l->
  l.length=xs.length/\(∀x,x∈l->x.cells.length=sz)/\cl w G (xs.flatMap λx=>(a.eval x).cells.toList) (l.flatMap D.cells)/\(∀x,x∈xs->(a.eval x).cells.size=sz)/\(∀d,d∈l->d.cells.all jA=true)
 |[],_,l,h,he=>by
  cases h;simp[elems,aAe]at he;subst he;exact⟨rfl,axX,.nil,axX,axX⟩
 |x::xs,_,l,h,he=>by
  cases h with
  |cons ak h=>
   rename_i y ys;obtain⟨t,ak⟩:=ak;simp[elems]at he;cases h1:hq (aL gl st y)with
   |none=>simp_all
   |some d=>
    cases sh:elems gl st sz ys with
    |none=>simp_all
    |some bC=>
     simp[h1,sh]at he;cases Ic:(Nat.beq d.cells.length sz&&d.cells.all jA)with
     |false=>simp_all
     |true=>
      simp[Ic,aAg,aAe]at he;subst he;simp only[aAc]at Ic;have av:=aAn Ic.1;obtain⟨L,ew⟩:=dQ ak p.rel;have j5:=(ew.hq h1).OE;obtain⟨aj,aF,aZ,bP,cK⟩:=OI p h sh;refine⟨axZ,?_,?_,?_,?_⟩
      .simp_all
      .grind[cl.append]
      .grind[Array.length_toList,cl.length]
      grind
theorem Ie{sz:Nat}:∀(vs:List Value) (i:Nat) (pre rest:List Value),pre.length=i*sz->rest.length=vs.length*sz->(∀v,v∈vs->v.cells.size=sz)->
  Instr.fill (λi=>some (i*sz,sz)) ⟨pre++rest⟩ ((List.range' i vs.length).zip vs)=some ⟨pre++vs.flatMap λv=>v.cells.toList⟩
 |[],i,pre,rest,_,ax,_=>by
  have:rest=[]:=axY;subst this;rfl
 |v::vs,i,pre,rest,hp,ax,hs=>by
  have hv:=hs v axX;simp only[aAu,aBl,aCR,Instr.fill];have En:sz<=rest.length:=by grind[Nat.add_mul]
  have y4:(v.cells.size≠sz||i*sz+v.cells.size>(⟨pre++rest⟩:Array Value).size)=false:=axY;have qF:v.cells.zipIdx.foldl (λ(cs:Array Value) (p:Value×Nat)=>cs.setIfInBounds (i*sz+p.2) p.1) ⟨pre++rest⟩=⟨(pre++v.cells.toList)++rest.drop sz⟩:=by
   have key:∀(us:List Value) (k:Nat) (q r:List Value),q.length=i*sz+k->us.length<=r.length->
     ((us.zipIdx k).foldl (λ(cs:Array Value) (p:Value×Nat)=>cs.setIfInBounds (i*sz+p.2) p.1) ⟨q++r⟩)=⟨(q++us)++r.drop us.length⟩:=by
    intro us;induction us with
    |nil=>simp
    |cons u us ih=>
     intro k q r aS aI;cases r with
     |nil=>simp_all
     |cons y r=>
      simp only[List.zipIdx_cons,aCT];have h1:(⟨q++y::r⟩:Array Value).setIfInBounds (i*sz+k) u=⟨(q++[u])++r⟩:=axY;rw[h1,ih (k+1) (q++[u]) r axZ axY];simp
   grind[Array.toList_zipIdx]
  have:=Ie vs (i+1) (pre++v.cells.toList) (rest.drop sz) axZ (by grind[Nat.add_mul]) (λu hu=>hs u axZ);simp_all
theorem afE{d t e n len:Nat}{ps:Array (Nat×Operand)}{ys:List O}{z:List ah}(p:bT n0 gl nt w G ρ lam a st)(a8:o.dst=some d)(bu:d<nt)(bz:o.op=.buildSlice t len ps)
  (hu:P.underlying t=some (.slice e)) (ay:dc P e=some n) (gu:0<n) (aO:zeros P e=some z) (w2:ps.toList.map (·.1)=List.range len) (n5:len*n<=2^24)
  (aS:h4 (λx y=>∃t,bO P t x=some y) (ps.toList.map (·.2)) ys)
  (hs:step (bx P gl) gl (.li d n ys) st K):o.wp P a w (cJ n0 gl nt w G ρ K) Q:=by
 obtain⟨i,eg,h1,sh,av,aW,bL⟩:=n1 aO;have dw:i.size=n:=ayo;have nu:=axW;simp[step]at hs;split at hs
 .rename_i l aI;obtain⟨aj,aF,aZ,bP,cK⟩:=OI p aS aI;have hlen:ps.toList.length=len:=by have:=congrArg List.length w2;grind
  have oK:l.length=len:=axY;have OJ:ps.map (λx=>(x.1,a.eval x.2))=⟨(List.range' 0 (ps.toList.map λx=>a.eval x.2).length).zip (ps.toList.map λx=>a.eval x.2)⟩:=by
   grind[List.range_eq_range']
  have wV:∀c0:Array Value,c0.size=len*n->Instr.fill (λi=>some (i*n,n)) c0 (ps.map (λx=>(x.1,a.eval x.2))).toList=some ⟨(ps.toList.map λx=>a.eval x.2).flatMap λv=>v.cells.toList⟩:=by
   intro c0 afF;have:=Ie (sz:=n) (ps.toList.map λx=>a.eval x.2) 0 [] c0.toList axX axY (λv hv=>axZ);simp_all
  have afG:((ps.toList.map λx=>a.eval x.2).flatMap λv=>v.cells.toList)=(ps.toList.map (·.2)).flatMap λx=>(a.eval x).cells.toList:=by
   generalize ps.toList=q;induction q with
   |nil=>rfl
   |cons y ys ih=>grind
  have dv:(Instr.buildSlice t len (ps.map λx=>(x.1,a.eval x.2))).run P w=.ok (.slice (some ⟨w.heap.size,0,none⟩) len len) {w with heap:=w.heap.push (.cells ⟨(ps.toList.map (·.2)).flatMap λx=>(a.eval x).cells.toList⟩ e)}:=by
   have iI:¬len*n>2^24:=axW;unfold Instr.buildSlice;simp only[aAm,eV hu,aAo,j3 ay,aBR,aAG iI,aAv];simp_all[newRow,rW]
  have fC:(execOp a.eval o).run P w=.ok (.value (.slice (some ⟨w.heap.size,0,none⟩) len len)) {w with heap:=w.heap.push (.cells ⟨(ps.toList.map (·.2)).flatMap λx=>(a.eval x).cells.toList⟩ e)}:=ayC;have oJ:((ps.toList.map (·.2)).flatMap λx=>(a.eval x).cells.toList).length=len*n:=ayn;have hw:gD w (.cells ⟨((ps.toList.map (·.2)).flatMap λx=>(a.eval x).cells.toList)++[]⟩ e) {w with heap:=w.heap.push (.cells ⟨(ps.toList.map (·.2)).flatMap λx=>(a.eval x).cells.toList⟩ e)}:=⟨axX,rfl,rfl⟩;refine gb fC (Bp (L0:=.slot d) (m:=l.length*n) p p.rel hw axX a8 bu (.lV ?_) hs);by_cases cB:l=[]
  .subst cB;subst oK;exact .cp (.nil _ _)
  .have:=Ib (ρ:=ρ) (d:=d) (cap:=len) hw gu aF cB aZ axW axY axX (OH aZ cK);simp_all
 .exact hs.elim
def aAb:=@List.length_map
def aCU:=@Array.length_toList
def aA6:=@List.length_nil
def aBy:=@Nat.zero_mul
def aBX:=@Go.run_loadCells_list
def aAs:=@List.mem_cons
theorem Bq{b m:Nat}:∀{us:List Value} {k:Nat} {w:World} {c:Array Value} {E:TypeId} {fz:Nat×Nat},w.heap[b]?=some (.cells c E fz)->m+k+us.length<=c.size->
  ∃c',(w.setCells b (m+k) us).heap[b]?=some (.cells c' E fz)/\c'.size=c.size/\(∀j,j<m+k\/m+k+us.length<=j->c'[j]?=c[j]?)/\(∀j v,us[j]?=some v->c'[m+k+j]?=some v)/\
   (∀cj,cj≠b->(w.setCells b (m+k) us).heap[cj]?=w.heap[cj]?)/\(w.setCells b (m+k) us).heap.size=w.heap.size
 |[],k,w,c,E,fz,h,aI=>⟨c,h,rfl,λ_ _=>rfl,λj v hv=>axY,λ_ _=>rfl,rfl⟩
 |u::us,k,w,c,E,fz,h,aI=>by
  have h1:=H3 (off:=m+k) (u:=u) h;obtain⟨c',aj,aF,aZ,bP,cK,dO⟩:=Bq (b:=b) (m:=m) (us:=us) (k:=k+1) h1 axZ;refine⟨c',aj,axY,?_,?_,?_,?_⟩
  .grind[Array.getElem?_setIfInBounds_ne]
  .intro j v hv;cases j with
   |zero=>
    grind
   |succ j=>
    grind
  .intro cj eZ;have:=cK cj eZ;exact this.trans (y3 eZ)
  .have:=dO;exact this.trans H4
theorem oL{b:Nat}:∀{us:List Value} {k:Nat} {w:World},(w.setCells b k us).os=w.os/\(w.setCells b k us).output=w.output
 |[],_,_=>⟨rfl,rfl⟩
 |u::us,k,w=>by
  have h:=oL (b:=b) (us:=us) (k:=k+1) (w:=w.setCell ⟨b,k,none⟩ u);exact⟨h.1.trans rfl,h.2.trans rfl⟩
theorem Eo{b m m':Nat}{L L':Loc}{c c':Array Value}{E:TypeId}{fz:Nat×Nat}(dA:G b=some (L,m))(hm:m<=m')(hold:w.heap[b]?=some (.cells c E fz))(jl:w'.heap[b]?=some (.cells c' E fz))
  (Ep:∀j,j<m->c'[j]?=c[j]?) (gU:c.size<=c'.size) (w3:∀cj,cj≠b->w'.heap[cj]?=w.heap[cj]?) (w4:w'.heap.size=w.heap.size) (aA:∀b L n,G b=some (L,n)->b<w.heap.size) (bE:L≠.foreign) (auX:L'≠.foreign) (afH:w'.os=w.os) (fa:w'.output=w.output):
  da w G w' (cC G b (some (L',m')))/\(∀fB,fB≠L->e4 fB fB w G w' (cC G b (some (L',m'))))/\Good w G w' (cC G b (some (L',m')))/\(∀cq L n,cC G b (some (L',m')) cq=some (L,n)->cq<w'.heap.size):=by
 have aq:da w G w' (cC G b (some (L',m'))):=by
  refine⟨?_,λa6 o h=> ?_,λa6 n h=> ?_⟩;rotate_left 2
  .obtain⟨c2,u6,qG,sh,av⟩:=h;by_cases au:a6=b
   .subst au;rw[hold]at sh;simp at sh;obtain⟨rfl,rfl,rfl⟩:=sh;exact⟨c',E,fz,jl,aAZ av gU⟩
   .exact⟨c2,u6,qG,(w3 _ au).trans sh,av⟩
  rotate_left
  .obtain⟨h1,av,sh⟩:=h;have au:a6≠b:=axZ;exact⟨by grind[nq],av,(w3 _ au).trans sh⟩
  intro a6 off v h;by_cases au:a6=b
  .subst au;have D8:=h.2.1 _ _ dA;refine⟨?_,?_,h.2.2⟩
   .rw[cell_of_block jl,Ep _ D8,<-cell_of_block hold];exact h.1
   .intro jd ic sh;grind[iC]
  .refine⟨by rw[y2 (w3 _ au)];exact h.1,?_,h.2.2⟩;intro jd ic sh;rw[nq _ _ au]at sh;exact h.2.1 _ _ sh
 have hs:∀fB,fB≠L->e4 fB fB w G w' (cC G b (some (L',m'))):=by
  intro fB h1 a6 n sh;have au:a6≠b:=axZ;grind[nq]
 refine⟨aq,hs,⟨axW,?_,?_,?_,aq,afH,fa⟩,?_⟩
 .intro a6 dY sh;have au:a6≠b:=axZ;grind[nq]
 .intro a6 n dY sh;by_cases au:a6=b
  .simp_all
  .rw[nq _ _ au]at sh;grind
 .intro a6 n dY sh;by_cases au:a6=b
  .subst au;rw[iC]at sh;simp_all
  grind[nq]
 grind[nq]
theorem iT.one{b off:Nat}{vs:List Value}(h:iT w G b off vs):∀u,u∈vs->u.oneCell'=true:=by
 intro u hu;obtain⟨j,aK,rfl⟩:=aBs hu;exact(h j _ (aAj aK)).2.2
theorem OL(n:Nat):∀(r c:Nat),c<=n+(n+768)/4->Builtin.growBy n r c<=n+(n+768)/4
 |0,c,h=>h
 |r+1,c,h=>by
  unfold Builtin.growBy;split
  .exact h
  .refine OL n r _ ?_;rename_i az;have:c+(c+768)/4<=n+(n+768)/4:=axW;exact this
theorem nextslicecap_le{need old:Nat}(h:old<need):Builtin.nextslicecap need old<=2*need:=by
 grind[Builtin.nextslicecap,OL]
theorem afI{v:Value}{x:ah}{sz:Nat}{l:List D}{L:Loc}(h:di w G ρ lam L v x)(aI:s5 x=some (sz,l))(cg:0<sz):
  ∃us:List Value,(Builtin.lenOf v).run P w=.ok l.length w/\(Builtin.firstCells sz l.length v).run P w=.ok ⟨us⟩ w/\cl w G us (l.flatMap D.cells)/\(∀u,u∈us->u.oneCell'=true)/\(l≠[]->∀d,d∈l->d.cells.length=sz)/\
   ∀{bW:World},(∀b off u,Cell w G b off u->bW.cell? ⟨b,off,none⟩=some u)->(Builtin.firstCells sz l.length v).run P bW=.ok ⟨us⟩ bW:=by
 by_cases hs:∃s,x=.d (.str s)
 .obtain⟨s,rfl⟩:=hs;obtain⟨rfl,rfl⟩:=aI;obtain⟨s1,rfl,rfl⟩:=h.str;have au:∀bW:World,(Builtin.firstCells 1 (s1.data.toList.map gk).length (.string s1)).run P bW=.ok ⟨s1.data.toList.map λb=>.int .u8 b.toNat⟩ bW:=by
   intro bW;simp only[Builtin.firstCells,aAb,aCU,aAv];have:(s1.extract 0 s1.data.size).data=s1.data:=axX;congr 1;grind
  refine⟨_,?_,au w,?_,?_,?_,λ_=>au _⟩
  .simp_all[Builtin.lenOf]
  .have:(s1.data.toList.map gk).flatMap D.cells=s1.data.toList.map gk:=by
    generalize s1.data.toList=q;induction q with
    |nil=>rfl
    |cons y ys ih=>simp[aAP,aBw,ih];rfl
   generalize s1.data.toList=q;induction q with
   |nil=>exact .nil
   |cons y ys ih=>exact .cons _ _ _ _ (.int _ _) ih
  .intro u hu;simp at hu;obtain⟨y,_,rfl⟩:=hu;rfl
  .intro _ d aY;simp at aY;obtain⟨y,_,rfl⟩:=aY;rfl
 .have tu:hr x=some (sz,l):=by
   cases x with
   |d y=>cases y<;>first|exact aI|simp_all|simp[s5]at aI
   |own=>exact aI
   |gJ=>exact aI
   |_=>grind[s5]
  obtain⟨cF,cap,rfl,iF,ky⟩:=(h.hr tu).slice;by_cases cB:l=[]
  .subst cB;refine⟨[],rfl,?_,.nil,axX,axX,λ_=> ?_⟩
   .cases cF with
    |none=>rfl
    |some cF=>simp[Builtin.firstCells,aA6,aBy];rfl
   .cases cF with
    |none=>rfl
    |some cF=>simp[Builtin.firstCells,aA6,aBy];rfl
  .obtain⟨b,off,vs,rfl,hw,az,ax⟩:=ky cB;have oJ:vs.length=l.length*sz:=ayn;have rZ:∀{bW:World},(∀b off u,Cell w G b off u->bW.cell? ⟨b,off,none⟩=some u)->(Builtin.firstCells sz l.length (.slice (some ⟨b,off,none⟩) l.length cap)).run P bW=.ok ⟨vs⟩ bW:=by
    intro bW sh;simp[Builtin.firstCells];rw[<-oJ];exact aBX (P:=P) bW ⟨b,off,none⟩ vs (λj v hv=>by rw[aA'];exact sh _ _ _ (az j v hv))
   exact⟨vs,rfl,rZ (λ_ _ _ h=>h.1),ax,az.one,λ_=>hw,λsh=>rZ sh⟩
def w5(P:Program)(w:World)(v:Value)(sz k:Nat)(us:List Value):Prop:=
 (Builtin.lenOf v).run P w=.ok k w/\(∀bW:World,bW.heap=w.heap->(Builtin.firstCells sz k v).run P bW=.ok ⟨us⟩ bW)/\(∀u,u∈us->u.oneCell'=true)/\us.length=k*sz
theorem Er{bW:World}(h:bW.heap=w.heap)(a:Addr):bW.cell? a=w.cell? a:=ayQ
theorem Ig{v:Value}{x:ah}{sz:Nat}{l:List D}{L:Loc}(h:di w G ρ lam L v x)(aI:s5 x=some (sz,l))(cg:0<sz):
  ∃us:List Value,w5 P w v sz l.length us/\cl w G us (l.flatMap D.cells)/\∀d,d∈l->d.cells.length=sz:=by
 obtain⟨us,h1,sh,av,aW,bL,cW⟩:=afI (P:=P) h aI cg;have aY:∀d,d∈l->d.cells.length=sz:=by
  intro d aY;exact bL axZ d aY
 refine⟨us,⟨h1,λbW hw=>cW λb off u az=> ?_,aW,ayn⟩,av,aY⟩;rw[Er hw];exact az.1
theorem OM{i off len _cap sz b:Nat}{v:Value}{cs:List ah}(hv:∃eu,v=.slice (some ⟨b,off,none⟩) len eu)(au:dM w G ρ b (.obj i) (.du i) cs)(ay:off+len*sz<=cs.length)(h1:∀(us:List Value),us.length=len*sz->
   (∀j v x,us[j]?=some v->((cs.drop off).take (len*sz))[j]?=some x->dn w G ρ (.du i (off+j)) v x)->∀u,u∈us->u.oneCell'=true):
  ∃us:List Value,w5 P w v sz len us/\∀j v x,us[j]?=some v->((cs.drop off).take (len*sz))[j]?=some x->dn w G ρ (.du i (off+j)) v x:=by
 obtain⟨eu,rfl⟩:=hv;obtain⟨us,aj,aF,aZ⟩:=au.range ay;refine⟨us,⟨rfl,λbW hw=> ?_,h1 us aj aZ,aj⟩,aZ⟩;simp[Builtin.firstCells];rw[<-aj];exact aBX (P:=P) bW ⟨b,off,none⟩ us (λj v hv=>by rw[aA',Er hw];exact aF j v hv)
theorem Es{sz:Nat}(cg:0<sz):∀(n:Nat) (l:List D),l.length=n*sz->l.all jA=true->(chunks sz n l).flatMap D.cells=l/\(chunks sz n l).length=n/\∀d,d∈chunks sz n l->d.cells.length=sz
 |0,l,h,_=>by
  grind[chunks]
 |n+1,l,h,h1=>by
  have hlen:sz<=l.length:=axZ;have aY:(l.drop sz).all jA=true:=axZ;obtain⟨aj,aF,aZ⟩:=Es cg n (l.drop sz) axZ aY;simp only[chunks];cases hs:Nat.beq sz 1 with
  |true=>
   obtain rfl:sz=1:=aAn hs;cases l with
   |nil=>simp_all
   |cons x l=>
    have ak:jA x=true:=axY;have az:x.cells=[x]:=by cases x<;>first|rfl|grind[jA]
    simp_all
  |false=>
   simp only[aAw,aBw,aAu,D.cells];refine⟨axY,by rw[aF],?_⟩;intro d aY;rcases aAs.1 aY with rfl|aY
   .simp_all
   .exact aZ d aY
theorem Et:∀{xs:List ah} {ds:List D},jz xs=some ds->ds.length=xs.length/\∀(j:Nat) (x:ah) (d:D),xs[j]?=some x->ds[j]?=some d->A1 x=some d
 |[],ds,h=>by grind[jz]
 |x::xs,ds,h=>by
  simp[jz]at h;split at h
  .rename_i d aj;split at h
   .rename_i l aF;simp at h;subst h;obtain⟨h1,sh⟩:=Et aF;refine⟨by simp[h1],λj y z wa aO=> ?_⟩;cases j with
    |zero=>simp at wa aO;subst wa;subst aO;exact aj
    |succ j=>exact sh j y z (by simpa using wa) (by simpa using aO)
   .simp at h
  .simp at h
theorem ON{v:Value}{x:ah}{sz:Nat}{l:List D}{L:Loc}(ct:ht w G ρ st.s)(h:di w G ρ lam L v x)(aI:qq st x=some (sz,l))(cg:0<sz):
  ∃us:List Value,w5 P w v sz l.length us/\cl w G us (l.flatMap D.cells)/\∀d,d∈l->d.cells.length=sz:=by
 unfold qq at aI;split at aI
 .rename_i i off len cap hY;have cG:=h;cases cG with
  |aN _ _ _ _ eu _ b cN az aO=>
   have eA:=ct.at cN;split at aI
   .rename_i cs gU;rw[gU]at eA;cases hle:Nat.ble (off+len*hY) cs.length with
    |false=>simp_all
    |true=>
     rw[hle]at aI;split at aI
     .rename_i ds bh;cases gT:ds.all jA with
      |false=>simp_all
      |true=>
       rw[gT]at aI;simp at aI;obtain⟨rfl,rfl⟩:=aI;have hle:=aAr hle;obtain⟨f1,f2⟩:=Et bh;have Br:ds.length=len*hY:=axZ;obtain⟨c1,c2,c3⟩:=Es cg len ds Br gT;have j5:∀(us:List Value),us.length=len*hY->(∀j v x,us[j]?=some v->((cs.drop off).take (len*hY))[j]?=some x->dn w G ρ (.du i (off+j)) v x)->cl w G us ds:=λus hu ax=>
        yV (LC:=λj=>.du i (off+j)) (k:=0) axW (λj v x hv ak=>by rw[aA2];exact ax j v x hv ak) bh
       obtain⟨us,s1,s2⟩:=OM (P:=P) (v:=.slice (some ⟨b,off,none⟩) len eu) (len:=len) (sz:=hY) (_cap:=cap) ⟨_,rfl⟩ eA hle (λus hu ax u ie=>by
        have:=j5 us hu ax;obtain⟨j,aK,rfl⟩:=aBs ie;have mF:j<ds.length:=axW;exact(this.get (aAj aK) (aAj mF)).Em (aAx.1 gT _ (aAl mF)))
       refine⟨us,axZ,?_,c3⟩;rw[c1];exact j5 us s1.2.2.2 s2
     simp_all
   simp_all
 .exact Ig h aI cg
theorem dn.gP{v:Value}{x:ah}{L:Loc}(h:dn w G ρ L v x):df w G ρ v (gP x):=by
 unfold aH.gP;split
 .exact h
 grind[snap]
theorem Bs{v:Value}{x:ah}{sz k:Nat}{us:List ah}{L:Loc}(ct:ht w G ρ st.s)(h:di w G ρ lam L v x)(aI:qp st x sz=some (us,k))(cg:0<sz):
  ∃vs:List Value,w5 P w v sz k vs/\ck w G ρ vs us:=by
 unfold qp at aI;split at aI
 .rename_i i off len cap hY;have cG:=h;cases cG with
  |aN _ _ _ _ eu _ b cN az aO=>
   have eA:=ct.at cN;split at aI
   .rename_i cs gU;rw[gU]at eA;cases hle:(Nat.beq hY sz&&Nat.ble (off+len*sz) cs.length&&(((cs.drop off).take (len*sz)).map gP).all kn)with
    |false=>grind
    |true=>
     simp only[hle,aAg,aAe,aAJ]at aI;obtain⟨rfl,rfl⟩:=aI;simp only[aAc]at hle;obtain⟨⟨h1,sh⟩,av⟩:=hle;have sh:=aAr sh;have hA:∀(us:List Value),us.length=len*sz->(∀j v x,us[j]?=some v->((cs.drop off).take (len*sz))[j]?=some x->dn w G ρ (.du i (off+j)) v x)->ck w G ρ us (((cs.drop off).take (len*sz)).map gP):=by
      grind[ck.mk,dn.gP]
     obtain⟨vs,s1,s2⟩:=OM (P:=P) (v:=.slice (some ⟨b,off,none⟩) len eu) (len:=len) (sz:=sz) (_cap:=cap) ⟨_,rfl⟩ eA sh (λus hu ax u ie=>by
      have:=hA us hu ax;obtain⟨j,aK,rfl⟩:=aBs ie;have mF:j<(((cs.drop off).take (len*sz)).map gP).length:=axZ;have fW:=aAx.1 av _ (aAl mF);simp only[kn,aAc]at fW;exact Ox (this.get (aAj aK) (aAj mF)) fW.1)
     exact⟨vs,s1,hA vs s1.2.2.2 s2⟩
   simp_all
 .split at aI
  .rename_i dt l aF;cases au:Nat.beq dt sz with
   |false=>simp_all
   |true=>
    obtain rfl:dt=sz:=aAn au;simp at aI;obtain⟨rfl,rfl⟩:=aI;obtain⟨vs,h1,sh,av⟩:=Ig (P:=P) h aF cg;grind[cl.D4]
  simp_all
def aCi:=@List.getElem?_cons_zero
def aBY:=@List.getElem?_cons_succ
def aCV:=@Bool.not_false
def aCA:=@Go.run_newObj
def tv:TypeDesc->Bool
 |.slice _|.string=>true
 |_=>false
theorem w6{t u e sz ty n m cap:Nat}{d:TypeDesc}{base:Option Addr}{x:Value}{us:List Value}{w1:World}(aE:P.underlying t=some (.slice e))(aO:dc P e=some sz)
  (hu:P.underlying u=some d) (aY:tv d=true)
  (hlen:(Builtin.lenOf x).run P w=.ok m w) (ak:(Builtin.firstCells sz m x).run P w=.ok ⟨us⟩ w) (hle:n+m<=cap)
  (eh:match base with|none=>w1=w|some cF=>(storeCells (cF.add (n*sz)) us).run P w=.ok () w1):
  (Builtin.append_ #[t,u] ty #[.slice base n cap,x]).run P w=.ok (.slice base (n+m) cap) w1:=by
 unfold Builtin.append_;cases d<;>first
  |(simp[tv]at aY;done)
  |(simp only[aBx,aCi,aBY,aAm,eV aE,eV hu,aAo,j3 aO,aAv,aA5,aAC,hlen,aBR,aAD hle,aCV,if_true,ak]
    grind[Sem.run_pure,Sem.run_bind,Result.andThen_ok])
theorem y5{t u e sz bt ty n m cap:Nat}{d:TypeDesc}{base:Option Addr}{x:Value}{us olds:List Value}{i:TypeInfo}{eg:Value}(aE:P.underlying t=some (.slice e))(aO:dc P e=some sz)(hi:P.info? e=some i)(kB:i.bytes=bt)(n3:i.zero=some eg)
  (hu:P.underlying u=some d) (aY:tv d=true)
  (hlen:(Builtin.lenOf x).run P w=.ok m w) (ak:∀bW:World,bW.heap=w.heap->(Builtin.firstCells sz m x).run P bW=.ok ⟨us⟩ bW) (hold:∀bW:World,bW.heap=w.heap->(Builtin.firstCells sz n (.slice base n cap)).run P bW=.ok ⟨olds⟩ bW)
  (y6:cap<n+m) (au:0<bt) (n5:(n+m)*bt<=140737488355328):
  ∃eu w1,(Builtin.append_ #[t,u] ty #[.slice base n cap,x]).run P w=.ok (.slice (some ⟨w.heap.size,0,none⟩) (n+m) eu) w1/\n+m<=eu/\
   gD w (.cells ⟨(olds++us)++(Builtin.zeroCells eg.cells (eu-(n+m))).toList⟩ e) w1:=by
 have Ih:=nextslicecap_le y6;have afJ:¬Builtin.nextslicecap (n+m) cap*bt>2^48:=by
  have h1:Builtin.nextslicecap (n+m) cap*bt<=2*(n+m)*bt:=aAV _ Ih;grind
 have hle:¬n+m<=cap:=axW;have Ii:∀bW:World,(typeInfo e).run P bW=.ok i bW:=λbW=>by simp[typeInfo,aAm,hi]
 have auY:¬(((n+m:Nat):Int)>IntKind.i64.max/\(False\/bt=0)):=axZ;obtain⟨eu,iF⟩:∃c,c=Question.cut (.appendCap (n+m) cap e) (w.tape w.drawn (.appendCap (n+m) cap e)):=⟨_,rfl⟩;refine⟨eu,{w with drawn:=w.drawn+1,heap:=w.heap.push (.cells ((⟨olds⟩:Array Value)++⟨us⟩++Builtin.zeroCells eg.cells (eu-(n+m))) e)},?_,?_,?_⟩;rotate_left
 .rw[iF];exact Nat.le_add_right _ _
 .refine⟨?_,rfl,rfl⟩;show w.heap.push _=w.heap.push _;congr 2;simp
 .unfold Builtin.append_;have afK:=ak {w with drawn:=w.drawn+1} rfl;have y7:=hold {w with drawn:=w.drawn+1} rfl;cases d<;>first
   |(simp[tv]at aY;done)
   |(simp only[aBx,aCi,aBY,aAm,eV aE,eV hu,aAo,j3 aO,aAv,aA5,aAC,hlen,aBR,aAG hle,aCV,if_true,Ii,kB,aAG afJ,rW hi n3]
     simp only[run_choose,Question.forced,aA5,aAC,aAo,run_askRoom,aAm,y7,afK,newRow,aCA,aAv];simp_all)
def aB8:=@Nat.div_mul_le_self
def aCW:=@List.flatMap_append
def aB9:=@Nat.le_of_eq
def aA7:=@List.getElem?_append_right
theorem ayD(h:p:=by grind[bytesOf]):p:=h
theorem ayE(h:p:=by grind[Builtin.zeroCells]):p:=h
theorem bS.drop{tmps:Array Value}{s:Nat}(h:bS gl w G ρ lam tmps st):bS gl w G ρ lam tmps (st.set s .undef) where
 aR t:=by
  simp only[ag.set,dh];by_cases aE:t=s
  .simp[aE,if_true];exact .cp (.undef _)
  .grind[aR]
 bH:=h.bH
 nb:=h.nb
 ob:=h.ob
 eU:=h.eU
 lt:=h.lt
theorem cl.afL{us:List Value}(h:cl w G us []):us=[]:=by cases h;rfl
theorem Ij{z:ah}{sz u7:Nat}{l e5:List D}(h:z=.own sz l\/(z=.gJ sz/\l=[]))(av:z=iz u7 e5):sz=u7/\l=e5:=by
 rcases h with rfl|⟨rfl,rfl⟩<;>cases e5<;>simp[iz]at av<;>simp[av]
theorem Bt{sz:Nat}{l:List D}(h:l≠[]):iz sz l=.own sz l:=by
 cases l with
 |nil=>simp_all
 |cons _ _=>rfl
theorem OO{z0:ah}{d s t u e sz bt b1:Nat}{x:Operand}{desc:TypeDesc}{z:List ah}{us:List Value}{l l2:List D}(p:bT n0 gl nt w G ρ lam a st)(a8:o.dst=some d)(bu:d<nt)
  (bz:o.op=.call {callee:=.builtin .append,args:= #[.tmp s,x],argTypes:= #[t,u]}) (aE:P.underlying t=some (.slice e)) (cg:dc P e=some sz) (gu:0<sz)
  (kB:bytesOf P e=some bt) (iG:0<bt) (lZ:b1=140737488355328/bt) (aO:zeros P e=some z) (hu:P.underlying u=some desc) (jL:tv desc=true)
  (w7:w5 P w (a.eval x) sz l2.length us) (lu:cl w G us (l2.flatMap D.cells)) (jm:∀d,d∈l2->d.cells.length=sz) (mH:l.length+l2.length<=b1) (aj:st.aR s=z0) (r1:z0=.own sz l\/(z0=.gJ sz/\l=[]))
  (hs:K ((st.set s .undef).set d (cond l2.isEmpty z0 (.own sz (l++l2))))):o.wp P a w (cJ n0 gl nt w G ρ K) Q:=by
 obtain⟨i,eg,hi,n3,r2,gw,_⟩:=n1 aO;have oM:i.bytes=bt:=ayD;have w8:eg.cells.size=sz:=ayo;have fC:∀{v:Value} {w1:World},(Builtin.append_ #[t,u] o.type #[a.tmps.getD s undef,a.eval x]).run P w=.ok v w1->(execOp a.eval o).run P w=.ok (.value v) w1:=by
  intro v w1 h;have he:a.eval (.tmp s)=a.tmps.getD s undef:=rfl;simp only[execOp,bz,resolve,aAm,aAv,aAo,invoke,builtin,aBU,aAP,aBK,he,h]
 have n5:=by
  have:=aAV bt mH;rw[lZ]at this;exact aAZ this (aB8 _ _)
 obtain⟨hlen,qH,j6,tr⟩:=w7;have rZ:=qH w rfl;have n6:=p.rel.aR s;rw[aj]at n6;have y8:dn w G ρ (.slot s) (a.tmps.getD s undef) z0:=by rcases r1 with rfl|⟨rfl,_⟩<;>exact n6
 by_cases tw:l2=[]
 ·
  subst tw;have OP:=lu.afL;subst OP;have hval:∃cF n c,a.tmps.getD s undef=.slice cF n c/\n=l.length/\n<=c:=by
   rcases y8.cases with hA|⟨_,e5,av,eA⟩|⟨_,_,_,av,eA⟩
   .rcases r1 with rfl|⟨rfl,_⟩<;>cases hv:a.tmps.getD s undef<;>rw[hv]at hA<;>cases hA
    grind
   .obtain⟨rfl,rfl⟩:=Ij r1 av;rcases eA with⟨b,off,cap,c,E,fz,vs,h1,sh,_⟩|⟨rfl,cF,h1⟩
    all_goals grind
   simp_all
  obtain⟨cF,n,c,hv,ay,az⟩:=hval;have dv:=w6 (P:=P) (ty:=o.type) (n:=n) (m:=0) (cap:=c) (base:=cF) (w1:=w) aE cg hu jL hlen rZ axW (by cases cF<;>rfl);rw[aAS,<-hv]at dv;rw[<-aj]at hs;have afM:=fC dv;exact gb afM (HR p.rel p.eO p.sz bu (Good.refl p.rel.lt) (λ_ _ h=>h) a8 hs)
 .have hm:0<l2.length:=List.length_pos_iff.2 tw;have nX:l2.isEmpty=false:=axY;rw[nX]at hs;simp at hs;have grow:∀(cF:Option Addr) (cap:Nat) (olds:List Value),a.tmps.getD s undef=.slice cF l.length cap->(∀bW:World,bW.heap=w.heap->(Builtin.firstCells sz l.length (.slice cF l.length cap)).run P bW=.ok ⟨olds⟩ bW)->
    cl w G olds (l.flatMap D.cells)->(∀u,u∈olds->u.oneCell'=true)->(∀d,d∈l->d.cells.length=sz)->cap<l.length+l2.length->o.wp P a w (cJ n0 gl nt w G ρ K) Q:=by
   intro cF cap olds hv hold holds y7 aI aA;have auZ:∀bW:World,bW.heap=w.heap->∀b off u,Cell w G b off u->bW.cell? ⟨b,off,none⟩=some u:=by
    intro bW sh b off u av;have:=y2 (w:=w) (w':=bW) (b:=b) (off:=off) (by rw[sh]);rw[this];exact av.1
   obtain⟨eu,w1,dv,Eu,h5⟩:=y5 (P:=P) (ty:=o.type) (base:=cF) (x:=a.eval x) aE cg hi oM n3 hu jL hlen qH hold aA iG n5;rw[<-hv]at dv;have gT:∀d,d∈l++l2->d.cells.length=sz:=axZ;have tz:(l++l2).length=l.length+l2.length:=axX;have nx:(Builtin.zeroCells eg.cells (eu-(l.length+l2.length))).toList.length=(eu-(l.length+l2.length))*sz:=ayE;have Ev:olds.length=l.length*sz:=ayn;refine gb (fC dv) (Bp (L0:=.slot d) (m:=(l++l2).length*sz) p p.rel.drop h5 axX a8 bu (.lV ?_) hs);have:=Ib (ρ:=ρ) (d:=d) (cap:=eu) h5 gu gT axY (by rw[aCW];exact holds.append lu) axW
    (by
     rw[aAA,aAA,Ev,tr,nx,<-aBb,<-aBb];simp_all)
    axX (λv hv=>axZ)
   simp_all
  have gU:(l=[]/\∃cF,a.tmps.getD s undef=.slice cF 0 0)\/lU w G (.slot s) (a.tmps.getD s undef) sz l:=by
   rcases y8.cases with hA|⟨u7,e5,heq,eA⟩|⟨_,_,_,heq,eA⟩
   .left;rcases r1 with rfl|⟨rfl,_⟩<;>cases hv:a.tmps.getD s undef<;>rw[hv]at hA<;>cases hA
    simp
   .obtain⟨rfl,rfl⟩:=Ij r1 heq;exact eA.symm
   simp_all
  rcases gU with⟨rfl,cF,hv⟩|eA
  ·
   refine grow cF 0 [] hv (λbW _=> ?_) .nil axX axX axW;cases cF with
   |none=>rfl
   |some cF=>simp[Builtin.firstCells,aA6,aBy];rfl
  .obtain⟨b,off,cap,c,E,fz,vs,h1,sh,av,aW,bL,cW,hx,hI,iD,kU⟩:=eA;have oJ:vs.length=l.length*sz:=ayn;by_cases mI:l.length+l2.length<=cap
   ·
    have Ew:off+l.length*sz+0+us.length<=c.size:=by
     rw[tr];have:(l.length+l2.length)*sz<=cap*sz:=aAV _ mI;grind
    obtain⟨c',mJ,w9,tA,r3,r4,r5⟩:=Bq (b:=b) (m:=off+l.length*sz) (us:=us) (k:=0) av Ew;rw[aAS]at mJ tA r3 r4 r5;obtain⟨aq,h6,dD,Bu⟩:=Eo (w:=w) (L':=.slot d) (m':=off+(l.length+l2.length)*sz) hx axZ av mJ (λj aK=>tA j axW) (aB9 w9.symm) r4 r5 p.rel.lt axX axX oL.1 oL.2;have tB:=aBW (P:=P) b (off+l.length*sz) us 0 w
     (λj aK=>by
      rw[aAS,cell_of_block av];grind)
     (λj aK=>by
      rw[aAS,u5 av];have:off+l.length*sz+j<c.size:=axW;grind)
     j6
    rw[aAS]at tB;have dv:=w6 (P:=P) (ty:=o.type) (n:=l.length) (m:=l2.length) (cap:=cap) (base:=some ⟨b,off,none⟩) (w1:=w.setCells b (off+l.length*sz) us) aE cg hu jL hlen rZ mI
     (show(storeCells ((⟨b,off,none⟩:Addr).add _) us).run P w=_ by grind[Addr.add_mid])
    rw[<-h1]at dv;refine gb (fC dv) ?_;have dz:bS gl (w.setCells b (off+l.length*sz) us) (cC G b (some (.slot d,off+(l.length+l2.length)*sz))) ρ lam a.tmps (st.set s .undef):=by
     refine⟨λt=> ?_,?_,p.rel.nb,p.rel.ob.bR aq (λ_=>h6 _ axX) (λ_ _=>h6 _ axX),p.rel.eU.bR aq,Bu⟩
     .simp only[ag.set,dh];by_cases hB:t=s
      .simp[hB,if_true];exact .cp (.undef _)
      .simp only[hB,aAC];exact(p.rel.aR t).bR aq (λ_ _ h=>h) (λ_ _ h=>h) (h6 _ axZ)
     .intro t cs au;obtain⟨a6,g1,g2⟩:=p.rel.bH t cs au;exact⟨a6,g1,dM.bR aq (λ_ _ h=>h) (h6 _ axX) (λj=>h6 _ axX) g2⟩
    rw[<-Bt (sz:=sz) (l:=l++l2) (by simp[tw])]at hs;refine nW dz p.eO p.sz bu dD (λ_ _ h=>h) a8 (.lV (.N1 ?_)) hs;have oK:(l++l2).length=l.length+l2.length:=aAA;refine⟨b,off,cap,c',E,fz,vs++us,axX,axW,mJ,axZ,axW,cW,?_,?_,?_,?_⟩
    .grind[iC]
    .grind
    .intro j v hv;rcases aA1 j vs.length with aK|aK
     .rw[aAY aK]at hv;exact aq.1 _ _ _ (iD j v hv)
     .rw[aA7 aK]at hv;have jM:j-vs.length<us.length:=axZ;refine⟨?_,?_,j6 v (aAM hv)⟩
      .rw[cell_of_block mJ];have:=r3 (j-vs.length) v hv;rw[show off+l.length*sz+(j-vs.length)=off+j by omega]at this;omega
      .intro jd n dA;grind[iC]
    grind[cl.append,cl.keep]
   .refine grow (some ⟨b,off,none⟩) cap vs h1 (λbW hw=> ?_) kU iD.one hI axW;simp[Builtin.firstCells];rw[<-oJ];exact aBX (P:=P) bW ⟨b,off,none⟩ vs (λj v hv=>by
     rw[aA',y2 (w:=w) (w':=bW) (by rw[hw])];exact(iD j v hv).1)
theorem r6{s t u:Nat}{x:Operand}{v:Value}{w1:World}(bz:o.op=.call {callee:=.builtin .append,args:= #[.tmp s,x],argTypes:= #[t,u]})
  (h:(Builtin.append_ #[t,u] o.type #[a.tmps.getD s undef,a.eval x]).run P w=.ok v w1):(execOp a.eval o).run P w=.ok (.value v) w1:=by
 have he:a.eval (.tmp s)=a.tmps.getD s undef:=rfl;simp only[execOp,bz,resolve,aAm,aAv,aAo,invoke,builtin,aBU,aAP,aBK,he,h]
theorem bS.y9{d:Nat}{ob:Obj}{v:Value}{x:ah}{vo:b9}(h:bS gl w G ρ lam a.tmps st)(hw:gD w ob w')(aY:d<a.tmps.size)
  (bd:kv w' (fP w G (.obj st.s.length) 0) (ρ++[w.heap.size+1]) st.s.length w.heap.size vo) (ak:df w' (fP w G (.obj st.s.length) 0) (ρ++[w.heap.size+1]) v x):
  bS gl w' (fP w G (.obj st.s.length) 0) (ρ++[w.heap.size+1]) lam (a.tmps.setIfInBounds d v) ({st with s:=st.s++[vo]}.set d x):=by
 have cN:∀i b:Nat,ρ[i]?=some (b+1)->(ρ++[w.heap.size+1])[i]?=some (b+1):=λi b hi=>iE i _ hi;have wb:=hw.rel (L0:=.obj st.s.length) (n0:=0) h.lt h;refine bS.set (st:={st with s:=st.s++[vo]}) ⟨λt=> ?_,?_,wb.nb,⟨ayR,?_⟩,wb.eU,wb.lt⟩ aY (.cp ak)
 .exact(wb.aR t).bR (da.refl _ _) cN (λ_ _ h=>h) (λb n h=>⟨rfl,h⟩)
 .intro t dZ aE;obtain⟨b,h1,sh⟩:=wb.bH t dZ aE;exact⟨b,h1,dM.bR (da.refl _ _) cN (λb n h=>⟨rfl,h⟩) (λj b n h=>⟨rfl,h⟩) sh⟩
 .intro i b o au pC;rcases Ee au with eZ|⟨hi,Ef⟩
  .have dV:i<st.s.length:=by
    rw[<-h.ob.1];grind
   rw[aAY dV]at pC;exact(wb.ob.2 i b o eZ pC).bR (da.refl _ _) cN (λb n h=>⟨rfl,h⟩) (λj b n h=>⟨rfl,h⟩)
  .obtain rfl:w.heap.size=b:=by omega
   have jj:i=st.s.length:=by rw[<-h.ob.1];omega
   simp_all
theorem ht.kill{s:aU}(h:ht w G ρ s)(i:Nat):ht w G ρ (s.set i .dead):=by
 refine⟨by simpa using h.1,λj b ob aK ct=> ?_⟩;by_cases eP:j=i
 .subst eP;have aA:j<s.length:=axZ;rw[aAW aA]at ct;simp at ct;subst ct;trivial
 .rw[aAQ (aAt eP)]at ct;exact h.2 j b ob aK ct
theorem bS.au0{tmps:Array Value}(h:bS gl w G ρ lam tmps st)(i:Nat):bS gl w G ρ lam tmps {st with s:=st.s.set i .dead} where
 aR:=h.aR
 bH:=h.bH
 nb:=h.nb
 ob:=h.ob.kill i
 eU:=h.eU
 lt:=h.lt
def jC(i j:Nat):Loc->Loc
 |.obj k=>if k=i then .obj j else .obj k
 |.du k c=>if k=i then .du j c else .du k c
 |L=>L
theorem OQ{i j:Nat}{L:Loc}(h1:L≠.obj i)(sh:∀c,L≠.du i c):jC i j L=L:=by
 cases L<;>simp[jC]<;>first|rfl|simp_all
theorem OR{i j:Nat}(h:∀b L n,G b=some (L,n)->b<w.heap.size):Good w G w (c8 (jC i j) G):=
 N7 h rfl λL bE=>by
  cases L<;>simp[jC]at bE<;>first|(grind)|simp at bE|rfl
theorem bS.afN{tmps:Array Value}{i b:Nat}{cs:List ah}(h:bS gl w G ρ lam tmps st)(au:st.s.getD i .dead=.box cs)(hi:ρ[i]?=some (b+1)):
  bS gl w (c8 (jC i st.s.length) G) (ρ++[b+1]) lam tmps {st with s:=st.s.set i .dead++[.box cs]}/\Good w G w (c8 (jC i st.s.length) G):=by
 have cN:∀i cj:Nat,ρ[i]?=some (cj+1)->(ρ++[b+1])[i]?=some (cj+1):=λi cj hi=>iE i _ hi;have aq:da w G w (c8 (jC i st.s.length) G):=j2 _;have hid:∀L,L≠.obj i->(∀c,L≠.du i c)->e4 L L w G w (c8 (jC i st.s.length) G):=λL h1 sh=>rR (OQ h1 sh);have ft:=azp;refine⟨⟨λt=>(h.aR t).bR aq cN (λ_ _ h=>h) (hid _ axX axX),?_,h.nb,⟨ayR,?_⟩,h.eU.bR aq,rS h.lt⟩,OR h.lt⟩
 .intro t dZ aE;obtain⟨a6,h1,sh⟩:=h.bH t dZ aE;exact⟨a6,h1,dM.bR aq cN (hid _ axX axX) (λj=>hid _ axX axX) sh⟩
 .intro j a6 ob aK ct;rcases Ee aK with mF|⟨mF,Ef⟩
  .have ep:j<st.s.length:=by
    rw[<-h.ob.1];grind
   rw[aAY axY]at ct;by_cases eP:j=i
   .subst eP;rw[aAW ep]at ct;simp at ct;subst ct;trivial
   .rw[aAQ (aAt eP)]at ct;exact(h.ob.2 j a6 ob mF ct).bR aq cN (hid _ axY axX) (λk=>hid _ axX axY)
  .obtain rfl:b=a6:=by omega
   have jM:j=st.s.length:=by rw[<-h.ob.1];omega
   subst jM;simp at ct;subst ct;have s1:=oH (w:=w) (G:=G) (jC i st.s.length) (.obj i);simp[jC,if_true]at s1;refine dM.bR aq cN s1 (λk=> ?_) ft;have s2:=oH (w:=w) (G:=G) (jC i st.s.length) (.du i k);simp_all[jC]
def aA3:=@Array.getElem?_eq_getElem
def aAp:=@decide_eq_false_iff_not
def aCj:=@List.getElem?_eq_none
def aBj:=@List.append_assoc
def aCB:=@List.size_toArray
def aBq:=@List.length_take
theorem ayp(h:p:=by rw[<-p.rel.ob.1];simp):p:=h
theorem azr(h:p:=by rw[aBq];omega):p:=h
theorem dM.short{b:Nat}{L:Loc}{LC:Nat->Loc}{cs:List ah}(h:dM w G ρ b L LC cs)(m:Nat):dM w G ρ b L LC (cs.take m):=by
 obtain⟨c,E,fz,h1,sh,av,aW,bL⟩:=h;refine⟨c,E,fz,h1,sh,av,axZ,λj v x hv ak=> ?_⟩;grind
theorem bS.afO{tmps:Array Value}{i:Nat}(h:bS gl w G ρ lam tmps st):
  bS gl w (c8 (jC i st.s.length) G) ρ lam tmps {st with s:=st.s.set i .dead}/\Good w G w (c8 (jC i st.s.length) G):=by
 have aq:da w G w (c8 (jC i st.s.length) G):=j2 _;have hid:∀L,L≠.obj i->(∀c,L≠.du i c)->e4 L L w G w (c8 (jC i st.s.length) G):=λL h1 sh=>rR (OQ h1 sh);refine⟨⟨λt=>(h.aR t).bR aq (λ_ _ h=>h) (λ_ _ h=>h) (hid _ axX axX),?_,h.nb,⟨ayR,?_⟩,h.eU.bR aq,rS h.lt⟩,OR h.lt⟩
 .intro t dZ aE;obtain⟨a6,h1,sh⟩:=h.bH t dZ aE;exact⟨a6,h1,dM.bR aq (λ_ _ h=>h) (hid _ axX axX) (λj=>hid _ axX axX) sh⟩
 .intro j a6 ob aK ct;by_cases eP:j=i
  .subst eP;have ep:j<st.s.length:=axZ;rw[aAW ep]at ct;simp at ct;subst ct;trivial
  .rw[aAQ (aAt eP)]at ct;exact(h.ob.2 j a6 ob aK ct).bR aq (λ_ _ h=>h) (hid _ axY axX) (λk=>hid _ axX axY)
theorem bS.afP{tmps:Array Value}{i b:Nat}{cs xs:List ah}{us:List Value}(h:bS gl w G ρ lam tmps st)(au:st.s.getD i .dead=.box cs)(hi:ρ[i]?=some (b+1))(ax:ck w G ρ us xs)
  (cg:tc w b (cs.length+us.length)):
  bS gl (w.setCells b cs.length us) (cC G b (some (.obj i,0))) ρ lam tmps {st with s:=st.s.set i (.box (cs++xs))}/\Good w G (w.setCells b cs.length us) (cC G b (some (.obj i,0))):=by
 have ft:=azp;obtain⟨c,E,fz,h1,sh,av,aW,bL⟩:=ft;obtain⟨c2,u6,qG,fO,z2⟩:=cg;rw[h1]at fO;obtain⟨rfl,rfl,rfl⟩:=fO;obtain⟨c',mJ,w9,tA,r3,r4,r5⟩:=Bq (b:=b) (m:=cs.length) (us:=us) (k:=0) h1 axW;rw[aAS]at mJ tA r3 r4 r5;obtain⟨aq,h6,dD,aA⟩:=Eo (w:=w) (L':=.obj i) (m':=0) av (aAd _) h1 mJ (λj aK=>axW) (aB9 w9.symm) r4 r5 h.lt axX axX oL.1 oL.2;refine⟨⟨λt=>(h.aR t).bR aq (λ_ _ h=>h) (λ_ _ h=>h) (h6 _ axX),?_,h.nb,⟨ayB,?_⟩,h.eU.bR aq,aA⟩,dD⟩
 .intro t dZ aE;obtain⟨a6,g1,g2⟩:=h.bH t dZ aE;exact⟨a6,g1,dM.bR aq (λ_ _ h=>h) (h6 _ axX) (λj=>h6 _ axX) g2⟩
 .intro j a6 ob aK ct;by_cases eP:j=i
  .subst eP;rw[hi]at aK;simp at aK;obtain rfl:b=a6:=axW;have ep:j<st.s.length:=axZ;rw[aAW ep]at ct;simp at ct;subst ct;refine⟨c',E,fz,mJ,axY,by rw[iC],ayw,λk v x hv ak=> ?_⟩;rcases aA1 k cs.length with qI|qI
   .rw[aAY qI]at ak;rw[tA k (.inl qI)]at hv;exact(bL k v x hv ak).bR aq (λ_ _ h=>h) (h6 _ axX)
   .rw[aA7 qI]at ak;have hf:k-cs.length<us.length:=ayw;have hu:=aAj hf;have:=r3 (k-cs.length) _ hu;rw[show cs.length+(k-cs.length)=k by omega]at this;grind[dn.cp,df.keep,ck.get]
  .rw[aAQ (aAt eP)]at ct;exact(h.ob.2 j a6 ob aK ct).bR aq (λ_ _ h=>h) (h6 _ axY) (λk=>h6 _ axX)
theorem OS{s:aU}{i:Nat}{cs:List ah}(h:s.getD i .dead=.box cs):i<s.length:=axZ
theorem afQ{d s t u e sz bt b1 i off len cap k:Nat}{x:Operand}{desc:TypeDesc}{z cs us:List ah}{vs:List Value}(p:bT n0 gl nt w G ρ lam a st)(a8:o.dst=some d)(bu:d<nt)
  (bz:o.op=.call {callee:=.builtin .append,args:= #[.tmp s,x],argTypes:= #[t,u]}) (aE:P.underlying t=some (.slice e)) (cg:dc P e=some sz) (afR:0<sz)
  (kB:bytesOf P e=some bt) (iG:0<bt) (lZ:b1=140737488355328/bt) (aO:zeros P e=some z) (hu:P.underlying u=some desc) (jL:tv desc=true)
  (w7:w5 P w (a.eval x) sz k vs) (lu:ck w G ρ vs us) (aC:len+k<=b1) (aj:st.aR s=.aN i off len cap sz) (aF:st.s.getD i .dead=.box cs)
  (hs:cond (Nat.ble (len+k) cap)
    (Nat.ble (off+(len+k)*sz) cs.length=true/\K ({st with s:=st.s.set i (.box (putCells cs (off+len*sz) us))}.set d (.aN i off (len+k) cap sz)))
    ((Nat.beq off 0&&Nat.ble (len*sz) cs.length)=true/\K ({st with s:=st.s.set i .dead++[b9.box (cs.take (len*sz)++us)]}.set d (.aN st.s.length 0 (len+k) (len+k) sz)))):o.wp P a w (cJ n0 gl nt w G ρ K) Q:=by
 obtain⟨i1,eg,hi,n3,r2,gw,_⟩:=n1 aO;have oM:=by unfold bytesOf at kB;rw[hi]at kB;simpa using kB
 have w8:=by unfold dc at cg;simp at cg;omega
 have n5:=by
  have:=aAV bt aC;rw[lZ]at this;exact aAZ this (aB8 _ _)
 obtain⟨hlen,qH,j6,tr⟩:=w7;have rZ:=qH w rfl;have n6:=p.rel.aR s;rw[aj]at n6;have hA:=n6;generalize hv:a.tmps.getD s undef=v at hA;cases hA with
 |aN _ _ _ _ eu _ b cN iF tq=>
  have ft:=by have:=p.rel.ob.at cN;rwa [aF]at this
  have dV:=OS aF;have tB:∀c E fz,w.heap[b]?=some (.cells c E fz)->(∀j,j<c.size->¬(fz.1<=j/\j<fz.2))->off+(len+k)*sz<=c.size->
    (storeCells ((⟨b,off,none⟩:Addr).add (len*sz)) vs).run P w=.ok () (w.setCells b (off+len*sz) vs):=by
   intro c E fz av aW hle;have aA:∀j,j<vs.length->off+len*sz+j<c.size:=by
    intro j aK;rw[aBb]at hle;omega
   have:=aBW (P:=P) b (off+len*sz) vs 0 w
    (λj aK=>by
     rw[aAS,cell_of_block av,aA3 (aA j aK)];rfl)
    (λj aK=>by
     rw[aAS,u5 av];have:=aW _ (aA j aK);simp only[Bool.and_eq_false_imp,aAi,aAp];exact λaj aF=>this ⟨aj,aF⟩)
    j6
   rw[aA'];exact this
  cases mI:Nat.ble (len+k) cap with
  |true=>
   rw[mI]at hs;obtain⟨hle,hs⟩:=hs;have hle:=aAr hle;have mI:=aAr mI;have Ik:=ft;obtain⟨c,E,fz,h1,sh,av,aW,bL⟩:=Ik;have dv:=w6 (P:=P) (ty:=o.type) (n:=len) (m:=k) (cap:=eu) (base:=some ⟨b,off,none⟩) (w1:=w.setCells b (off+len*sz) vs) aE cg hu jL hlen rZ axW (tB c E fz h1 sh axW);rw[<-hv]at dv;obtain⟨bN,b5⟩:=p.rel.Bo (off:=off+len*sz) cN aF lu;refine gb (r6 bz dv) (nW bN p.eO p.sz bu b5 (λ_ _ h=>h) a8 (.cp (.aN _ _ _ _ _ _ _ cN iF (b5.keep.2.2 _ _ tq))) hs)
  |false=>
   rw[mI]at hs;obtain⟨fD,hs⟩:=hs;simp only[aAc]at fD;obtain rfl:off=0:=aAn fD.1;have ig:=aAr fD.2;have pD:(cs.take (len*sz)).length=len*sz:=azr;by_cases Il:len+k<=eu
   ·
    obtain⟨c,E,fz,h1,sh,av,aW,bL⟩:=ft;obtain⟨c2,u6,qG,fO,z2⟩:=tq;rw[h1]at fO;simp at fO;obtain⟨rfl,rfl,rfl⟩:=fO;have tC:(len+k)*sz<=c.size:=by
     have:=aAV sz Il;omega
    have dv:=w6 (P:=P) (ty:=o.type) (n:=len) (m:=k) (cap:=eu) (base:=some ⟨b,0,none⟩) (w1:=w.setCells b (0+len*sz) vs) aE cg hu jL hlen rZ Il (tB c E fz h1 sh axW);rw[<-hv]at dv;obtain⟨m1,m2⟩:=p.rel.afN aF cN;have m3:bS gl w (c8 (jC i st.s.length) G) (ρ++[b+1]) lam a.tmps {st with s:=st.s.set i .dead++[.box (cs.take (len*sz))]}:=by
     refine⟨m1.aR,m1.bH,m1.nb,⟨by simpa using m1.ob.1,λj a6 ob aK ct=> ?_⟩,m1.eU,m1.lt⟩;rcases Ee ct with xa|⟨mF,Ef⟩
     .refine m1.ob.2 j a6 ob aK ?_;have ep:j<(st.s.set i .dead).length:=by
       rcases aA1 j (st.s.set i .dead).length with cG|cG
       .exact cG
       .rw[aCj cG]at xa;simp at xa
      show(st.s.set i .dead++[.box cs])[j]?=some ob;rw[aAY ep];exact xa
     .subst Ef;have:=m1.ob.2 j a6 (.box cs) aK (by
       show(st.s.set i .dead++[.box cs])[j]?=some (.box cs);rw[mF,aA7 (aAd _)];simp)
      exact dM.short this _
    have Bv:({st with s:=st.s.set i .dead++[.box (cs.take (len*sz))]}:ag).s.getD st.s.length .dead=.box (cs.take (len*sz)):=by
     show(st.s.set i .dead++[b9.box (cs.take (len*sz))]).getD st.s.length .dead=_;rw[aAL,aA7 axX];simp
    have r7:(ρ++[b+1])[st.s.length]?=some (b+1):=ayp;obtain⟨b',cr⟩:=m3.afP Bv r7 (lu.keep m2.keep (λi b h=>iE i _ h)) ⟨c,E,fz,h1,by rw[pD,tr,<-aBb];exact tC⟩;rw[pD]at b' cr;rw[aA2]at dv;have iX:(st.s.set i .dead++[b9.box (cs.take (len*sz))]).set st.s.length (.box (cs.take (len*sz)++us))=st.s.set i .dead++[b9.box (cs.take (len*sz)++us)]:=by
     rw[List.set_append_right _ _ axX];simp
    simp at b';refine gb (r6 bz dv) (nW b' p.eO p.sz bu (m2.trans cr) (λi b h=>iE i _ h) a8 (.cp (.aN _ _ _ _ _ _ _ r7 Il ?_)) hs);exact cr.keep.2.2 _ _ ⟨c,E,fz,h1,z2⟩
   ·
    have Ik:=ft;obtain⟨c,E,fz,h1,sh,av,aW,bL⟩:=Ik;have OT:(c.toList.take (len*sz)).length=len*sz:=axZ;have hold:∀bW:World,bW.heap=w.heap->(Builtin.firstCells sz len (.slice (some ⟨b,0,none⟩) len eu)).run P bW=.ok ⟨c.toList.take (len*sz)⟩ bW:=by
     intro bW mK;simp[Builtin.firstCells];have:=aBX (P:=P) bW ⟨b,0,none⟩ (c.toList.take (len*sz)) (λj v hv=>by
      rw[aA',Er mK,aA2,cell_of_block h1];grind)
     simp_all
    obtain⟨qJ,w1,dv,Ex,h5⟩:=y5 (P:=P) (ty:=o.type) (base:=some ⟨b,0,none⟩) (x:=a.eval x) aE cg hi oM n3 hu jL hlen qH hold axW iG n5;rw[<-hv]at dv;obtain⟨bN,b5⟩:=p.rel.afO (i:=i);have kz:(st.s.set i .dead).length=st.s.length:=axX;have Ey:=h5.keeps (G:=c8 (jC i st.s.length) G) (L0:=.obj st.s.length) (n0:=0);have nx:(Builtin.zeroCells eg.cells (qJ-(len+k))).toList.length=(qJ-(len+k))*sz:=ayE;have u9:dM w1 (fP w (c8 (jC i st.s.length) G) (.obj st.s.length) 0) (ρ++[w.heap.size+1]) w.heap.size (.obj st.s.length) (.du st.s.length) (cs.take (len*sz)++us):=by
     refine⟨_,e,(0,0),h5.new,axX,ayl,?_,λj v x hv ak=> ?_⟩
     .grind[ck.length]
     .rw[aBx]at hv;rcases aA1 j (len*sz)with aK|aK
      .rw[aAY axW,aBQ,aAD aK]at ak;rw[aBj,aAY axW,aBQ,aAD aK,Array.getElem?_toList]at hv;have AT:=bL j v x hv ak;have s2:=oH (w:=w) (G:=G) (jC i st.s.length) (.du i j);simp[jC,if_true]at s2;have D9:=AT.bR (ρ':=ρ) (j2 (jC i st.s.length)) (λ_ _ h=>h) s2;exact D9.bR Ey (λi b h=>iE i _ h) (h5.same (L0:=.obj st.s.length) (n0:=0) bN.lt _)
      .rw[aA7 axW,pD]at ak;have jM:j-len*sz<vs.length:=ayw;rw[aBj,aA7 axW,OT,aAY jM]at hv;exact .cp (((lu.get hv ak).keep (j2 (jC i st.s.length)) (λ_ _ h=>h)).keep Ey (λi b h=>iE i _ h))
    have r7:(ρ++[w.heap.size+1])[st.s.length]?=some (w.heap.size+1):=ayp;have jl:=bS.y9 (a:=a) (d:=d) (v:=.slice (some ⟨w.heap.size,0,none⟩) (len+k) qJ) (x:=.aN st.s.length 0 (len+k) (len+k) sz) (vo:=.box (cs.take (len*sz)++us)) (st:={st with s:=st.s.set i .dead}) bN h5 (aAI bu p.sz)
     (by show dM _ _ _ _ (.obj (st.s.set i .dead).length) (.du (st.s.set i .dead).length) _;simp_all)
     (by
      simp;refine .aN _ _ _ _ _ _ _ r7 Ex ⟨_,e,(0,0),h5.new,?_⟩;simp only[aCB,aAA,OT,tr,nx];rw[<-aBb,<-aBb];simp_all)
    simp at jl;refine gb (r6 bz dv) (kV p.eO (put_defers _ _ _) ax5 _ (ρ++[w.heap.size+1]) lam _ ?_ (b5.trans (h5.good bN.lt (L0:=.obj st.s.length) (n0:=0) axX)) (λi b h=>iE i _ h) hs);rw[a8];exact jl
def aAy:=@List.map_append
theorem afS{v:ah}{x:fc}(h:HD v=some x):v=x.val:=by
 unfold HD at h;split at h
 .simp at h;subst h;rfl
 .simp at h;subst h;rfl
 simp_all
theorem Im:∀{us:List ah} {cs:List fc},uS us=some cs->us=jB cs
 |[],cs,h=>by simp[uS,aAe]at h;subst h;rfl
 |v::us,cs,h=>by
  simp[uS]at h;split at h
  .rename_i x xs h1 sh;simp at h;subst h;rw[afS h1,Im sh];rfl
  .simp at h
theorem afT{v:Value}{x:fc}(h:df w G ρ v x.val):df w G ρ' v x.val:=by
 cases x with
 |d x=>cases (show df w G ρ v (.d x)from h)with|d _ _ h=>exact .d _ _ h
 |nil z=>cases (show df w G ρ v (.own z [])from h)with|nil cF=>exact .nil _ _
theorem xb:∀{cs:List fc} {vs:List Value},ck w G ρ vs (jB cs)->ck w G ρ' vs (jB cs)
 |[],_,h=>by cases h;exact .nil
 |x::cs,_,h=>by cases h with|cons v _ vs _ h1 sh=>exact .cons _ _ _ _ (afT h1) (xb sh)
theorem OU(cs gC:List fc):jB (cs++gC)=jB cs++jB gC:=aAy
theorem OV{d sz e n k eu:Nat}{olds vs zs:List Value}{cs gC:List fc}{w1:World}(h5:gD w (.cells ⟨(olds++vs)++zs⟩ e) w1)(iF:n+k<=eu)(gu:0<sz)(bd:olds.length=n*sz)(hv:vs.length=k*sz)(nx:zs.length=(eu-(n+k))*sz)
  (rT:ck w G ρ olds (jB cs)) (u3:ck w G ρ vs (jB gC)) (h1:∀u,u∈olds->u.oneCell'=true) (sh:∀u,u∈vs->u.oneCell'=true):
  px w1 (fP w G (.slot d) 0) (.slot d) (.slice (some ⟨w.heap.size,0,none⟩) (n+k) eu) sz (n+k) (cs++gC):=by
 have aq:=h5.keeps (G:=G) (L0:=.slot d) (n0:=0);refine⟨w.heap.size,eu,_,e,(0,0),olds++vs,rfl,iF,h5.new,axX,?_,gu,ayl,?_,λj v hv=>⟨?_,?_⟩,?_⟩
 .rw[aCB,aAA,aAA,bd,hv,nx,<-aBb,<-aBb];simp_all
 .grind
 .grind
 .grind
 .rw[OU];exact((xb rT).append (xb u3)).keep aq (λ_ _ h=>h)
theorem afU{d s t u e sz bt b1 n k:Nat}{x:Operand}{desc:TypeDesc}{z us:List ah}{oN:List Value}{cs gC:List fc}(p:bT n0 gl nt w G ρ lam a st)(a8:o.dst=some d)(bu:d<nt)
  (bz:o.op=.call {callee:=.builtin .append,args:= #[.tmp s,x],argTypes:= #[t,u]}) (aE:P.underlying t=some (.slice e)) (cg:dc P e=some sz) (gu:0<sz)
  (kB:bytesOf P e=some bt) (iG:0<bt) (lZ:b1=140737488355328/bt) (aO:zeros P e=some z) (hu:P.underlying u=some desc) (jL:tv desc=true)
  (w7:w5 P w (a.eval x) sz k oN) (lu:ck w G ρ oN us) (Bw:uS us=some gC) (mH:n+k<=b1) (aj:st.aR s=.raw sz n cs)
  (hs:K ((st.set s .undef).set d (.raw sz (n+k) (cs++gC)))):o.wp P a w (cJ n0 gl nt w G ρ K) Q:=by
 obtain⟨i,eg,hi,n3,r2,gw,_⟩:=n1 aO;have oM:i.bytes=bt:=ayD;have w8:eg.cells.size=sz:=ayo;have n5:=by
  have:=aAV bt mH;rw[lZ]at this;exact aAZ this (aB8 _ _)
 obtain⟨hlen,qH,j6,tr⟩:=w7;have rZ:=qH w rfl;obtain rfl:=Im Bw;have n6:=p.rel.aR s;rw[aj]at n6;obtain⟨b,cap,c,E,fz,vs,h1,sh,av,aW,bL,cW,hx,hI,iD,kU⟩:=(show px w G (.slot s) (a.tmps.getD s undef) sz n cs from n6);have afV:∀u,u∈vs->u.oneCell'=true:=λu hu=>by
  obtain⟨j,aK,rfl⟩:=aBs hu;exact(iD j _ (aAj aK)).2
 by_cases mI:n+k<=cap
 .have Ew:0+n*sz+0+oN.length<=c.size:=by
   have:(n+k)*sz<=cap*sz:=aAV _ mI;grind
  obtain⟨c',mJ,w9,tA,r3,r4,r5⟩:=Bq (b:=b) (m:=0+n*sz) (us:=oN) (k:=0) av Ew;rw[aAS]at mJ tA r3 r4 r5;obtain⟨aq,h6,dD,Bu⟩:=Eo (w:=w) (L':=.slot d) (m':=0) hx (aAd 0) av mJ (λj aK=>absurd aK (aBh j)) (aB9 w9.symm) r4 r5 p.rel.lt axX axX oL.1 oL.2;have tB:=aBW (P:=P) b (0+n*sz) oN 0 w
   (λj aK=>by
    rw[aAS,cell_of_block av];grind)
   (λj aK=>by
    rw[aAS,u5 av];have:0+n*sz+j<c.size:=axW;grind)
   j6
  have dv:=w6 (P:=P) (ty:=o.type) (n:=n) (m:=k) (cap:=cap) (base:=some ⟨b,0,none⟩) (w1:=w.setCells b (0+n*sz) oN) aE cg hu jL hlen rZ mI
   (show(storeCells ((⟨b,0,none⟩:Addr).add _) oN).run P w=_ by grind[Addr.add_mid])
  rw[<-h1]at dv;refine gb (r6 bz dv) ?_;have dz:bS gl (w.setCells b (0+n*sz) oN) (cC G b (some (.slot d,0))) ρ lam a.tmps (st.set s .undef):=by
   refine⟨λt=> ?_,?_,p.rel.nb,p.rel.ob.bR aq (λ_=>h6 _ axX) (λ_ _=>h6 _ axX),p.rel.eU.bR aq,Bu⟩
   .simp only[ag.set,dh];by_cases hB:t=s
    .simp[hB,if_true];exact .cp (.undef _)
    .simp only[hB,aAC];exact(p.rel.aR t).bR aq (λ_ _ h=>h) (λ_ _ h=>h) (h6 _ axZ)
   .intro t cs au;obtain⟨a6,g1,g2⟩:=p.rel.bH t cs au;exact⟨a6,g1,dM.bR aq (λ_ _ h=>h) (h6 _ axX) (λj=>h6 _ axX) g2⟩
  refine nW dz p.eO p.sz bu dD (λ_ _ h=>h) a8 (.lV ?_) hs;refine⟨b,cap,c',E,fz,vs++oN,rfl,mI,mJ,axZ,axW,cW,iC _ _ _,?_,?_,?_⟩
  .grind
  .intro j v hv;rcases aA1 j vs.length with aK|aK
   .grind
   .rw[aA7 aK]at hv;refine⟨?_,j6 v (aAM hv)⟩;have:=r3 (j-vs.length) v hv;rw[show 0+n*sz+(j-vs.length)=j by omega]at this;omega
  .rw[OU];exact(xb (kU.keep aq (λ_ _ h=>h))).append (xb (lu.keep aq (λ_ _ h=>h)))
 .have aA:cap<n+k:=by omega
  obtain⟨eu,w1,dv,Eu,h5⟩:=y5 (P:=P) (ty:=o.type) (base:=some ⟨b,0,none⟩) (n:=n) (olds:=vs) (cap:=cap) (x:=a.eval x) aE cg hi oM n3 hu jL hlen qH (λbW hw=>by
   simp[Builtin.firstCells];rw[<-hI];exact aBX (P:=P) bW ⟨b,0,none⟩ vs (λj v hv=>by
    rw[aA',aA2,cell_of_block (by rw[hw];omega)];simp_all)) aA iG n5
  rw[<-h1]at dv;have nx:(Builtin.zeroCells eg.cells (eu-(n+k))).toList.length=(eu-(n+k))*sz:=ayE;exact gb (r6 bz dv) (Bp (L0:=.slot d) (m:=0) p p.rel.drop h5 axX a8 bu (.lV (show dn _ _ _ _ _ (.raw _ _ _)from OV h5 Eu gu hI tr nx (xb kU) lu afV j6)) hs)
theorem px.rK{L0:Loc}{n sz m:Nat}{v:Value}{cs:List fc}(h:px w G L0 v sz m cs):
  ∃b cap,v=.slice (some ⟨b,0,none⟩) m cap/\m<=cap/\tc w b (0+cap*sz)/\∀ρ',dM w (c8 (ff L0 (.obj n)) G) ρ' b (.obj n) (.du n) (jB cs):=by
 obtain⟨b,cap,c,E,fz,vs,h1,sh,av,aW,bL,cW,hx,hI,iD,kU⟩:=h;have Io:m*sz<=cap*sz:=aAV _ sh;refine⟨b,cap,h1,sh,⟨c,E,fz,av,axW⟩,λρ'=>⟨c,E,fz,av,aW,by rw[Be hx,tg],?_,λj v x hv ak=> ?_⟩⟩
 .grind[ck.length]
 .have aK:j<vs.length:=by
   grind[ck.length]
  have OW:=aAj aK;have:=(iD j _ OW).1;rw[this]at hv;simp at hv;subst hv;exact .cp ((xb (ρ':=ρ') kU).get OW ak |>.keep (j2 _) (λ_ _ h=>h))
theorem ht.snoc{L0:Loc}{s:aU}{n b:Nat}{ob:b9}(ay:n=s.length)(h:∀q a6 o,ρ[q]?=some (a6+1)->s[q]?=some o->kv w (c8 (ff L0 (.obj n)) G) (ρ++[b+1]) q a6 o)(aI:ρ.length=s.length)
  (bd:kv w (c8 (ff L0 (.obj n)) G) (ρ++[b+1]) n b ob):ht w (c8 (ff L0 (.obj n)) G) (ρ++[b+1]) (s++[ob]):=by
 refine⟨axZ,λq a6 o aS kZ=> ?_⟩;grind
theorem bS.afW{tmps:Array Value}{s sz m:Nat}{us:List fc}(h:bS gl w G ρ lam tmps st)(hs:st.aR s=.raw sz m us):
  ∃G' b,bS gl w G' (ρ++[b+1]) lam tmps ({st with s:=st.s++[b9.box (jB us)]}.set s (.aN st.s.length 0 m m sz))/\Good w G w G'/\df w G' (ρ++[b+1]) (tmps.getD s undef) (.aN st.s.length 0 m m sz):=by
 have ch:=by have:=h.aR s;rw[hs]at this;exact this
 obtain⟨b,cap,h1,sh,av,aW⟩:=ch.rK (n:=st.s.length);have cN:∀i cj:Nat,ρ[i]?=some (cj+1)->(ρ++[b+1])[i]?=some (cj+1):=λi cj hi=>iE i _ hi;have aq:da w G w (c8 (ff (.slot s) (.obj st.s.length)) G):=j2 _;have hid:∀L',L'≠.slot s->e4 L' L' w G w (c8 (ff (.slot s) (.obj st.s.length)) G):=λL' bE=>rR (qx bE);have hA:df w (c8 (ff (.slot s) (.obj st.s.length)) G) (ρ++[b+1]) (tmps.getD s undef) (.aN st.s.length 0 m m sz):=by
  rw[h1];exact .aN _ _ _ _ _ _ _ azl sh (aq.2.2 _ _ av)
 refine⟨_,b,⟨λt=> ?_,?_,h.nb,?_,h.eU.bR aq,rS h.lt⟩,qy h.lt axX axX,hA⟩
 .simp only[ag.set,dh];by_cases aE:t=s
  .simp_all[di.cp]
  .simp only[aE,aAC];exact(h.aR t).bR aq cN (λ_ _ h=>h) (hid _ axZ)
 .intro t cs au;obtain⟨a6,q1,bF⟩:=h.bH t cs au;exact⟨a6,q1,dM.bR aq cN (hid _ axX) (λj=>hid _ axX) bF⟩
 .exact ht.snoc rfl (λq a6 o aS bd=>(h.ob.2 q a6 o aS bd).bR aq cN (hid _ axX) (λj=>hid _ axX)) h.ob.1 (aW _)
theorem bS.wL{tmps:Array Value}{i j b:Nat}{s':aU}(h:bS gl w G ρ lam tmps st)(hi:ρ[i]?=some (b+1))(he:aH.wL st.s i j=some s'):
  ∃G' ρ',bS gl w G' ρ' lam tmps {st with s:=s'}/\Good w G w G'/\(∀i b:Nat,ρ[i]?=some b->ρ'[i]?=some b):=by
 unfold aH.wL at he;split at he
 .rename_i cs gU;split at he
  .rename_i sz m us aK;simp at he;subst he;have eA:=h.ob.at hi;rw[gU]at eA;obtain⟨c,E,fz,g1,g2,g3,g4,g5⟩:=(show dM w G ρ b (.obj i) (.du i) cs from eA);have ep:j<cs.length:=axZ;have jM:cs[j]?=some (.raw sz m us):=axY;have xc:j<c.size:=axW;have dV:=OS gU;have ch:=g5 j c[j] _ (aA3 xc) jM;obtain⟨cq,cap,h1,sh,av,aW⟩:=ch.rK (n:=st.s.length);have cN:∀i cj:Nat,ρ[i]?=some (cj+1)->(ρ++[cq+1])[i]?=some (cj+1):=λi cj hi=>iE i _ hi;have aq:da w G w (c8 (ff (.du i j) (.obj st.s.length)) G):=j2 _;have hid:∀L',L'≠.du i j->e4 L' L' w G w (c8 (ff (.du i j) (.obj st.s.length)) G):=λL' bE=>rR (qx bE);refine⟨_,ρ++[cq+1],⟨λt=>(h.aR t).bR aq cN (λ_ _ h=>h) (hid _ axX),?_,h.nb,?_,h.eU.bR aq,rS h.lt⟩,qy h.lt axX axX,λi b h=>iE i _ h⟩
   .intro t dZ au;obtain⟨a6,q1,bF⟩:=h.bH t dZ au;exact⟨a6,q1,dM.bR aq cN (hid _ axX) (λj=>hid _ axX) bF⟩
   .refine ht.snoc axX (λq a6 o aS bd=> ?_) ayB (aW _);by_cases l0:q=i
    .subst l0;rw[aAW dV]at bd;simp at bd;subst bd;rw[hi]at aS;simp at aS;subst aS;refine⟨c,E,fz,g1,g2,by grind[Be,qx],axY,λku v' bA jN kY=> ?_⟩;by_cases Ez:ku=j
     .subst Ez;rw[aAW ep]at kY;simp at kY;subst kY;rw[aA3 xc]at jN;simp at jN;subst jN;refine .cp ?_;rw[h1];exact .aN _ _ _ _ _ _ _ azl sh (aq.2.2 _ _ av)
     .rw[aAQ (aAt Ez)]at kY;exact(g5 ku v' bA jN kY).bR aq cN (hid _ axY)
    .rw[aAQ (aAt l0)]at bd;exact(h.ob.2 q a6 o aS bd).bR aq cN (hid _ axX) (λku=>hid _ axY)
  .simp at he;subst he;exact⟨G,ρ,h,Good.refl h.lt,λ_ _ h=>h⟩
 simp_all
theorem bS.qs{i:Nat}{tmps:Array Value}:∀{n j b:Nat} {s s':aU} {G:bI} {ρ:List Nat},ρ[i]?=some (b+1)->bS gl w G ρ lam tmps {st with s:=s}->aH.qs i s j n=some s'->
  ∃G' ρ',bS gl w G' ρ' lam tmps {st with s:=s'}/\Good w G w G'/\(∀i b:Nat,ρ[i]?=some b->ρ'[i]?=some b)
 |0,_,_,s,s',G,ρ,_,h,he=>by
  grind[aH.qs,Good.refl,lt]
 |n+1,j,b,s,s',G,ρ,hi,h,he=>by
  simp[aH.qs]at he;split at he
  .rename_i s1 h1;obtain⟨gV,k0,bN,g1,k1⟩:=h.wL hi h1;obtain⟨fZ,fE,b5,g2,k2⟩:=bS.qs (s:=s1) (k1 _ _ hi) bN he;exact⟨fZ,fE,b5,g1.trans g2,λi b h=>k2 i b (k1 i b h)⟩
  .simp at he
theorem afX{d t:Nat}{x:Operand}{bA:O}(p:bT n0 gl nt w G ρ lam a st)(a8:o.dst=some d)(bu:d<nt)(bz:o.op=.move x)(ak:bO P t x=some bA)
  (hs:step (bx P gl) gl (.pg d bA) st K):o.wp P a w (cJ n0 gl nt w G ρ K) Q:=by
 have ax:(execOp a.eval o).run P w=.ok (.value (a.eval x)) w:=ayf;rcases HS ak p.rel with⟨s,rfl,rfl⟩|⟨ay,_⟩
 .simp[step]at hs;split at hs
  .rename_i sz m us aj;obtain⟨G',b,bN,g1,hA⟩:=p.rel.afW aj;exact gb ax (nW bN p.eO p.sz bu g1 (λi b h=>iE i _ h) a8 (.cp hA) hs)
  .rename_i i off aj;have hA:=by have:=p.rel.aR s;rw[aj]at this;exact this
   generalize hv:a.tmps.getD s undef=v at hA;cases hA with
   |ptr _ _ b au=>
    split at hs
    .rename_i cs aF;split at hs
     .rename_i s' aZ;obtain⟨G',ρ',bN,g1,k1⟩:=bS.qs (st:=st) au p.rel aZ;refine gb ax (nW bN p.eO p.sz bu g1 k1 a8 ?_ hs);show di _ _ _ _ _ (a.tmps.getD s undef) _;rw[hv];exact .cp (.ptr _ _ _ (k1 _ _ au))
     .exact hs.elim
    .exact hs.elim
  .exact p.value a8 bu (v:=a.eval (.tmp s)) ax (yX ak p.rel) hs
 .exfalso;cases bA with
  |t s=>simp_all
  |c v=>exact hs
  |g n=>exact hs
theorem afY{v:Value}{sz:Nat}(h:df w G ρ v (.own sz [])):∃cF,v=.slice cF 0 0:=by
 cases h;simp
theorem Ip{nw rw:Bool}{d s t u e sz bt b1:Nat}{x:Operand}{bA:O}{desc:TypeDesc}{t1:Nat}{z:List ah}(p:bT n0 gl nt w G ρ lam a st)(a8:o.dst=some d)(bu:d<nt)
  (bz:o.op=.call {callee:=.builtin .append,args:= #[.tmp s,x],argTypes:= #[t,u]}) (ak:bO P t1 x=some bA) (aE:P.underlying t=some (.slice e)) (cg:dc P e=some sz) (gu:0<sz)
  (kB:bytesOf P e=some bt) (iG:0<bt) (lZ:b1=140737488355328/bt) (aO:zeros P e=some z) (hu:P.underlying u=some desc) (jL:tv desc=true)
  (hs:hG (bx P gl) gl nw rw d s bA sz b1 st K):o.wp P a w (cJ n0 gl nt w G ρ K) Q:=by
 obtain⟨Bl,kX⟩:=dQ ak p.rel;unfold hG at hs;split at hs
 .rename_i ej l aj;cases ay:(nw&&l.isEmpty)with
  |true=>
   rw[ay]at hs;have aI:l=[]:=axY;subst aI;have n6:=p.rel.aR s;rw[aj]at n6;obtain⟨cF,hv⟩:=afY (show df w G ρ (a.tmps.getD s undef) (.own ej [])from n6);split at hs
   .rename_i au1 aF;obtain⟨vs,h1,sh⟩:=Bs (P:=P) p.rel.ob kX aF gu;have jk:vs=[]:=by
     have:=h1.2.2.2;simp_all
    subst jk;have dv:=w6 (P:=P) (ty:=o.type) (n:=0) (m:=0) (cap:=0) (base:=cF) (w1:=w) aE cg hu jL h1.1 (h1.2.1 w rfl) (aAd _) (by cases cF<;>rfl);rw[<-hv]at dv;exact p.value a8 bu (r6 bz dv) (by rw[hv];exact .cp (.nil _ _)) hs
   .rename_i cs k aq aF;cases rw with
    |true=>
     split at hs
     rotate_left
     .exact hs.elim
     rename_i gC aZ;obtain⟨aC,hs⟩:=hs;simp only[aAc]at aC;obtain⟨lv,fD⟩:=aC;obtain rfl:ej=sz:=aAn lv;have fD:=aAr fD;obtain⟨vs,h1,sh⟩:=Bs (P:=P) p.rel.ob kX aF gu;obtain rfl:=Im aZ;obtain⟨i1,eg,hi,n3,r2,gw,_⟩:=n1 aO;have oM:i1.bytes=bt:=ayD;have w8:eg.cells.size=ej:=ayo;have n5:(0+k)*bt<=140737488355328:=by
      rw[aA2];have:=aAV bt fD;rw[lZ]at this;exact aAZ this (aB8 _ _)
     have qK:0<k:=axZ;obtain⟨qJ,w1,dv,Ex,h5⟩:=y5 (P:=P) (ty:=o.type) (n:=0) (olds:=[]) (cap:=0) (base:=cF) (x:=a.eval x) aE cg hi oM n3 hu jL h1.1 h1.2.1
      (λbW _=>by
       cases cF with
       |none=>rfl
       |some cF=>simp[Builtin.firstCells,aBy];rfl) axW iG n5
     rw[<-hv]at dv;have nx:(Builtin.zeroCells eg.cells (qJ-(0+k))).toList.length=(qJ-(0+k))*ej:=ayE;have jl:=OV (G:=G) (ρ:=ρ) (d:=d) (n:=0) (cs:=[]) h5 Ex gu axX h1.2.2.2 nx .nil sh axX h1.2.2.1;rw[aBn]at jl;refine gb (r6 bz dv) (Bp (L0:=.slot d) (m:=0) p p.rel h5 axX a8 bu (.lV (show dn _ _ _ _ _ (.raw ej k gC)from ?_)) hs);have wb:=aA2 k;rw[wb]at jl;show px _ _ _ (.slice _ (0+k) _) _ _ _;simp_all
    |false=>
     simp at hs;obtain⟨aC,hs⟩:=hs;simp only[aAc]at aC;obtain⟨lv,fD⟩:=aC;obtain rfl:ej=sz:=aAn lv;have fD:=aAr fD;obtain⟨vs,h1,sh⟩:=Bs (P:=P) p.rel.ob kX aF gu;obtain⟨i1,eg,hi,n3,r2,gw,_⟩:=n1 aO;have oM:i1.bytes=bt:=ayD;have w8:eg.cells.size=ej:=ayo;have n5:(0+k)*bt<=140737488355328:=by
      rw[aA2];have:=aAV bt fD;rw[lZ]at this;exact aAZ this (aB8 _ _)
     have qK:0<k:=axZ;obtain⟨qJ,w1,dv,Ex,h5⟩:=y5 (P:=P) (ty:=o.type) (n:=0) (olds:=[]) (cap:=0) (base:=cF) (x:=a.eval x) aE cg hi oM n3 hu jL h1.1 h1.2.1
      (λbW _=>by
       cases cF with
       |none=>rfl
       |some cF=>simp[Builtin.firstCells,aBy];rfl) axW iG n5
     rw[<-hv]at dv;have Ey:=h5.keeps (G:=G) (L0:=.obj st.s.length) (n0:=0);have nx:(Builtin.zeroCells eg.cells (qJ-(0+k))).toList.length=(qJ-(0+k))*ej:=ayE;have r7:(ρ++[w.heap.size+1])[st.s.length]?=some (w.heap.size+1):=ayp;have jl:=bS.y9 (a:=a) (d:=d) (v:=.slice (some ⟨w.heap.size,0,none⟩) (0+k) qJ) (x:=.aN st.s.length 0 k k ej) (vo:=.box cs) p.rel h5 (aAI bu p.sz)
      (by
       refine⟨_,e,(0,0),h5.new,axX,ayl,?_,λj v x hv ak=> ?_⟩
       .rw[<-sh.length,h1.2.2.2];simp only[aCB,aAA,aBn,h1.2.2.2];omega
       .rw[aBx,aBn]at hv;have jM:j<vs.length:=ayw;rw[aAY jM]at hv;exact .cp ((sh.get hv ak).keep Ey (λi b h=>iE i _ h)))
      (by
       rw[aA2];refine .aN _ _ _ _ _ _ _ r7 axW ⟨_,e,(0,0),h5.new,?_⟩;simp only[aCB,aAA,aBn,h1.2.2.2,nx];rw[<-aBb];simp_all)
     refine gb (r6 bz dv) (kV p.eO (put_defers _ _ _) ax5 _ (ρ++[w.heap.size+1]) lam _ ?_ (h5.good p.rel.lt (L0:=.obj st.s.length) (n0:=0) axX) (λi b h=>iE i _ h) hs);rw[a8];exact jl
   .exact hs.elim
  |false=>
   rw[ay]at hs;simp at hs;split at hs
   .rename_i dt l2 aF;obtain⟨aC,hs⟩:=hs;simp only[aAc]at aC;obtain⟨⟨lv,fD⟩,mH⟩:=aC;obtain rfl:ej=sz:=aAn lv;obtain rfl:dt=ej:=aAn fD;obtain⟨us,h1,sh,av⟩:=ON (P:=P) p.rel.ob kX aF gu;exact OO p a8 bu bz aE cg gu kB iG lZ aO hu jL h1 sh av (aAr mH) aj (.inl rfl) axZ
   .exact hs.elim
 .rename_i ej n cs aj;split at hs
  .rename_i us k aF;split at hs
   .rename_i gC aZ;obtain⟨aC,hs⟩:=hs;simp only[aAc]at aC;obtain rfl:ej=sz:=aAn aC.1;obtain⟨vs,h1,sh⟩:=Bs (P:=P) p.rel.ob kX aF gu;exact afU p a8 bu bz aE cg gu kB iG lZ aO hu jL h1 sh aZ (aAr aC.2) aj hs
   .exact hs.elim
  .exact hs.elim
 .rename_i i off len cap ej aj;split at hs
  .rename_i cs us k aF aZ;obtain⟨aC,hs⟩:=hs;simp only[aAc]at aC;obtain⟨lv,fD⟩:=aC;obtain rfl:ej=sz:=aAn lv;obtain⟨vs,h1,sh⟩:=Bs (P:=P) p.rel.ob kX aZ gu;exact afQ p a8 bu bz aE cg gu kB iG lZ aO hu jL h1 sh (aAr fD) aj aF hs
  .exact hs.elim
 .rename_i ej aj;split at hs
  .rename_i dt l2 aF;obtain⟨aC,hs⟩:=hs;simp only[aAc]at aC;obtain⟨⟨lv,fD⟩,mH⟩:=aC;obtain rfl:ej=sz:=aAn lv;obtain rfl:dt=ej:=aAn fD;obtain⟨us,h1,sh,av⟩:=ON (P:=P) p.rel.ob kX aF gu;exact OO (l:=[]) p a8 bu bz aE cg gu kB iG lZ aO hu jL h1 sh av axY aj (.inr ⟨rfl,rfl⟩) (by
    cases l2 with
    |nil=>exact hs
    |cons _ _=>exact hs)
  .exact hs.elim
 .exact hs.elim
def aAE:=@Bool.not_eq_true'
def aBZ:=@List.length_drop
theorem OX{b k:Nat}(OY:G b=some (.obj k,0)):da w G w (cC G b none):=by
 refine⟨λx off v az=>⟨az.1,λL n bE=> ?_,az.2.2⟩,λx o hm=>⟨?_,hm.2⟩,λ_ _ h=>h⟩
 .simp only[dh]at bE;split at bE
  .simp_all
  .exact az.2.1 L n bE
 .simp only[dh];split
  .rfl
  .exact hm.1
theorem afZ{b k:Nat}(h:G b=some (.obj k,0)){L:Loc}(bE:L≠.obj k):e4 L L w G w (cC G b none):=by
 intro x n ak;refine⟨rfl,?_⟩;simp[dh];grind
theorem af0{b k:Nat}(aA:∀b L n,G b=some (L,n)->b<w.heap.size)(h:G b=some (.obj k,0)):Good w G w (cC G b none) where
 size:=aAd _
 iB x _ ak:=by
  grind[dh]
 new x n ak bh:=by
  grind[dh]
 old x n _ bh:=by
  grind[dh]
 keep:=OX h
 os:=rfl
 out:=rfl
theorem bS.pk{k:Nat}{y:D}{x:ah}{v:Value}{tmps:Array Value}(h:bS gl w G ρ lam tmps st)(hv:df w G ρ v x)(he:aH.pk st.s x=some (y,k)):
  ∃G',bS gl w G' ρ lam tmps {st with s:=st.s.set k .dead}/\Good w G w G'/\Rd w G' v y:=by
 unfold aH.pk at he;split at he
 .rename_i ji off len cap sz;cases hv with
  |aN _ _ _ _ eu _ lq Iq iF tq=>
   have Bx:=h.ob.at Iq;split at he
   .rename_i bs tD;rw[tD]at Bx;have ft:=Bx;cases aC:(Nat.ble len cap&&Nat.blt 0 sz&&Nat.ble (off+len*sz) bs.length)with
    |false=>simp_all
    |true=>
     rw[aC]at he;simp only[aAc]at aC;have qC:=aAr aC.1.1;have cg:=aAr aC.1.2;have hle:=aAr aC.2;split at he
     .rename_i l bh;cases gT:l.all jA with
      |false=>simp_all
      |true=>
       rw[gT]at he;simp at he;obtain⟨rfl,rfl⟩:=he;obtain⟨f1,_⟩:=Et bh;have Br:l.length=len*sz:=axZ;obtain⟨c1,c2,c3⟩:=Es cg len l Br gT;obtain⟨us,gE,gW,gd⟩:=ft.range hle;have j5:cl w G us l:=yV (LC:=λj=>.du ji (off+j)) (k:=0) axW (λj v x hv ak=>by rw[aA2];exact gd j v x hv ak) bh;obtain⟨_,_,_,_,_,g3,_,_⟩:=ft;have aq:=OX (w:=w) g3;have hs:∀{L:Loc},L≠.obj ji->e4 L L w G w (cC G lq none):=λbE=>afZ g3 bE;refine⟨cC G lq none,⟨λt=>(h.aR t).bR aq (λ_ _ h=>h) (λ_ _ h=>h) (hs axX),?_,h.nb,⟨ayB,?_⟩,h.eU.bR aq,?_⟩,af0 h.lt g3,?_⟩
       .intro t dZ aE;obtain⟨a6,q1,bF⟩:=h.bH t dZ aE;exact⟨a6,q1,dM.bR aq (λ_ _ h=>h) (hs axX) (λj=>hs axX) bF⟩
       .intro q a6 ob aS ct;have Bz:q<st.s.length:=axZ;by_cases BA:q=ji
        .subst BA;rw[aAW Bz]at ct;simp at ct;subst ct;trivial
        .rw[aAQ (aAt BA)]at ct;exact(h.ob.2 q a6 ob aS ct).bR aq (λ_ _ h=>h) (hs axZ) (λj=>hs axX)
       .intro a6 L n dY;simp only[dh]at dY;split at dY
        .grind
        .exact h.lt _ _ _ dY
       .refine .list _ _ _ _ _ _ us c2.symm (aAZ qC iF) c3 (λq u hu=>⟨gW q u hu,λL n bE=> ?_,?_⟩) (by grind[cl.keep])
        .grind[dh]
        .have aS:q<us.length:=by
          grind
         have tE:q<l.length:=axW;exact(j5.get hu (aAj tE)).Em (aAx.1 gT _ (aAl tE))
     simp_all
   simp_all
 simp_all
theorem OZ{b k d m:Nat}(h:G b=some (.obj k,0)):da w G w (cC G b (some (.slot d,m))):=by
 refine⟨λx off v az=>⟨az.1,λL n bE=> ?_,az.2.2⟩,λx o hm=>⟨?_,hm.2⟩,λ_ _ h=>h⟩
 .by_cases e:x=b
  .subst e;have:=az.2.1 _ _ h;omega
  .simp[dh,aAG e]at bE;exact az.2.1 L n bE
 .have e:x≠b:=λe=>by have:=hm.1;simp_all
  simp[dh,aAG e];exact hm.1
theorem af1{b k d m:Nat}(h:G b=some (.obj k,0)){L:Loc}(bE:L≠.obj k):e4 L L w G w (cC G b (some (.slot d,m))):=by
 intro x n ak;refine⟨rfl,?_⟩;have e:x≠b:=λe=>axY;simp_all[dh]
theorem af2{b k d m:Nat}(aA:∀b L n,G b=some (L,n)->b<w.heap.size)(h:G b=some (.obj k,0)):Good w G w (cC G b (some (.slot d,m))) where
 size:=aAd _
 iB x _ ak:=by
  have e:x≠b:=λe=>axY;simp_all[dh]
 new x n ak bh:=by
  by_cases e:x=b
  .grind
  .simp[dh,aAG e]at bh;grind
 old x n _ bh:=by
  by_cases e:x=b;all_goals simp_all[dh]
 keep:=OZ h
 os:=rfl
 out:=rfl
theorem bS.af3{k d:Nat}{y:D}{x:ah}{v:Value}{tmps:Array Value}(h:bS gl w G ρ lam tmps st)(hv:df w G ρ v x)(he:aH.pk st.s x=some (y,k)):
  ∃G' sz l,y=.list sz l/\bS gl w G' ρ lam tmps {st with s:=st.s.set k .dead}/\Good w G w G'/\lU w G' (.slot d) v sz l:=by
 unfold aH.pk at he;split at he
 .rename_i ji off len cap sz;cases hv with
  |aN _ _ _ _ eu _ lq Iq iF tq=>
   have Bx:=h.ob.at Iq;split at he
   .rename_i bs tD;rw[tD]at Bx;have ft:=Bx;cases aC:(Nat.ble len cap&&Nat.blt 0 sz&&Nat.ble (off+len*sz) bs.length)with
    |false=>simp_all
    |true=>
     rw[aC]at he;simp only[aAc]at aC;have qC:=aAr aC.1.1;have cg:=aAr aC.1.2;have hle:=aAr aC.2;split at he
     .rename_i l bh;cases gT:l.all jA with
      |false=>simp_all
      |true=>
       rw[gT]at he;simp at he;obtain⟨rfl,rfl⟩:=he;obtain⟨f1,_⟩:=Et bh;have Br:l.length=len*sz:=axZ;obtain⟨c1,c2,c3⟩:=Es cg len l Br gT;obtain⟨us,gE,gW,gd⟩:=ft.range hle;have j5:cl w G us l:=yV (LC:=λj=>.du ji (off+j)) (k:=0) axW (λj v x hv ak=>by rw[aA2];exact gd j v x hv ak) bh;obtain⟨c,E,fz,g1,g2,g3,g4,_⟩:=ft;obtain⟨au2,u6,qG,fO,z2⟩:=tq;rw[g1]at fO;obtain⟨rfl,rfl,rfl⟩:=fO;have aq:=OZ (w:=w) (d:=d) (m:=off+len*sz) g3;have hs:∀{L:Loc},L≠.obj ji->e4 L L w G w (cC G lq (some (.slot d,off+len*sz))):=λbE=>af1 g3 bE;refine⟨cC G lq (some (.slot d,off+len*sz)),sz,_,rfl,⟨λt=>(h.aR t).bR aq (λ_ _ h=>h) (λ_ _ h=>h) (hs axX),?_,h.nb,⟨ayB,?_⟩,h.eU.bR aq,?_⟩,af2 h.lt g3,?_⟩
       .intro t dZ aE;obtain⟨a6,q1,bF⟩:=h.bH t dZ aE;exact⟨a6,q1,dM.bR aq (λ_ _ h=>h) (hs axX) (λj=>hs axX) bF⟩
       .intro q a6 ob aS ct;have Bz:q<st.s.length:=axZ;by_cases BA:q=ji
        .subst BA;rw[aAW Bz]at ct;simp at ct;subst ct;trivial
        .rw[aAQ (aAt BA)]at ct;exact(h.ob.2 q a6 ob aS ct).bR aq (λ_ _ h=>h) (hs axZ) (λj=>hs axX)
       .intro a6 L n dY;simp[dh]at dY;split at dY
        .grind
        .exact h.lt _ _ _ dY
       .refine⟨lq,off,eu,c,E,fz,us,by rw[c2],axW,g1,g2,z2,cg,by rw[iC,c2],c3,λq u hu=>⟨gW q u hu,λL n bE=> ?_,?_⟩,by grind[cl.keep]⟩
        .grind[iC]
        .have aS:q<us.length:=by
          grind
         have tE:q<l.length:=axW;exact(j5.get hu (aAj tE)).Em (aAx.1 gT _ (aAl tE))
     simp_all
   simp_all
 simp_all
theorem bS.A4{i j b:Nat}{s':aU}{tmps:Array Value}(h:bS gl w G ρ lam tmps st)(hi:ρ[i]?=some (b+1))(he:aH.A4 st.s i j=some s'):
  ∃G',bS gl w G' ρ lam tmps {st with s:=s'}/\Good w G w G':=by
 unfold aH.A4 at he;split at he
 .rename_i cs gU;split at he
  .rename_i k off len cap sz aq;split at he
   .rename_i y k1 EA;cases za:Nat.beq k1 i with
    |true=>simp_all
    |false=>
     rw[za]at he;simp at he;subst he;have cB:k1≠i:=λe=>axY;have eA:=h.ob.at hi;rw[gU]at eA;have af4:=eA;obtain⟨c,E,fz,h1,sh,av,aW,bL⟩:=af4;have aK:j<cs.length:=axZ;have jM:cs[j]?=some (.aN k off len cap sz):=axY;have xc:j<c.size:=axW;have hv:=bL j c[j] _ (aA3 xc) jM;have BB:=hv;obtain⟨G',bN,g1,d1⟩:=h.pk BB EA;refine⟨G',⟨bN.aR,bN.bH,bN.nb,⟨ayB,?_⟩,bN.eU,bN.lt⟩,g1⟩;intro q a6 ob aS ct;have Bz:q<st.s.length:=axZ;by_cases l0:q=i
     .subst l0;rw[aAW axY]at ct;simp at ct;subst ct;rw[hi]at aS;simp at aS;subst aS;have hd:=bN.ob.2 q b (.box cs) hi axY;obtain⟨c',au3,pE,Ir,k2,fX,jn,qL⟩:=(show dM w G' ρ b (.obj q) (.du q) cs from hd);rw[h1]at Ir;obtain⟨rfl,rfl,rfl⟩:=Ir;refine⟨c,E,fz,h1,sh,fX,axY,λku v' bA jN kY=> ?_⟩;by_cases Ez:ku=j
      .subst Ez;rw[aAW aK]at kY;simp at kY;subst kY;rw[aA3 xc]at jN;simp at jN;subst jN;exact dn.cp (.d _ _ d1)
      grind
     .rw[aAQ (aAt l0)]at ct;exact bN.ob.2 q a6 ob aS ct
   simp_all
  .simp at he;subst he;exact⟨G,h,Good.refl h.lt⟩
 simp_all
theorem bS.s7{i b:Nat}{tmps:Array Value}(hi:ρ[i]?=some (b+1)):∀{n j:Nat} {s s':aU} {G:bI},bS gl w G ρ lam tmps {st with s:=s}->aH.s7 i s j n=some s'->
  ∃G',bS gl w G' ρ lam tmps {st with s:=s'}/\Good w G w G'
 |0,_,s,s',G,h,he=>by
  grind[aH.s7,Good.refl,lt]
 |n+1,j,s,s',G,h,he=>by
  simp[aH.s7]at he;split at he
  .rename_i s1 h1;obtain⟨gV,bN,g1⟩:=h.A4 hi h1;obtain⟨fZ,b5,g2⟩:=bS.s7 hi (s:=s1) bN he;exact⟨fZ,b5,g1.trans g2⟩
  .simp at he
theorem af5{d t n t1:Nat}{x:Operand}{bA:O}(p:bT n0 gl nt w G ρ lam a st)(a8:o.dst=some d)(bu:d<nt)(bz:o.op=.load t x)(ak:bO P t1 x=some bA)
  (aO:dc P t=some n) (dB:kq P t=some true) (hs:step (bx P gl) gl (.aO d bA n) st K):o.wp P a w (cJ n0 gl nt w G ρ K) Q:=by
 obtain⟨fB,ax⟩:=dQ ak p.rel;simp[step]at hs;split at hs
 .rename_i i off aj;rw[aj]at ax;have gS:=ax;cases cc:a.eval x<;>rw[cc]at gS<;>cases gS;rename_i b au;split at hs
  .rename_i s' aF;obtain⟨G',bN,b5⟩:=bS.s7 (st:=st) (s:=st.s) au p.rel aF;split at hs
   .rename_i cs aZ;obtain⟨ay,hs⟩:=hs;have ft:kv w G' ρ i b (.box cs):=by have:=bN.ob.at au;simp_all
    obtain⟨v,dv,dz⟩:=Bm (show dM w G' ρ b (.obj i) (.du i) cs from ft) (aAr ay) aO dB (λh=>axZ);refine gb (v:=v) ?_ (nW bN p.eO p.sz bu b5 (λ_ _ h=>h) a8 (.cp dz) hs);grind[execOp,Sem.run_bind,Result.andThen_ok,Sem.run_pure]
   .exact hs.elim
  .exact hs.elim
 .exact hs.elim
theorem af6{d t:Nat}{own:Bool}{x:Operand}{bA:O}(p:bT n0 gl nt w G ρ lam a st)(a8:o.dst=some d)(bu:d<nt)(bz:o.op=.assign x)(ak:bO P t x=some bA)
  (hs:step (bx P gl) gl (.nn d own bA) st K):o.wp P a w (cJ n0 gl nt w G ρ K) Q:=by
 simp[step]at hs;split at hs
 .rename_i k off len cap sz aj;split at hs
  .rename_i y k1 EA;obtain⟨fB,ax⟩:=dQ ak p.rel;rw[aj]at ax;have gS:=ax;cases own with
   |false=>
    obtain⟨G',bN,g1,d1⟩:=p.rel.pk gS EA;exact gb (v:=a.eval x) ayf (nW bN p.eO p.sz bu g1 (λ_ _ h=>h) a8 (.cp (.d _ _ d1)) hs)
   |true=>
    obtain⟨G',ib,l,rfl,bN,g1,d1⟩:=p.rel.af3 (d:=d) gS EA;exact gb (v:=a.eval x) ayf (nW bN p.eO p.sz bu g1 (λ_ _ h=>h) a8 (.lV (.N1 d1)) hs)
  .exact hs.elim
 .exact N8 p a8 bu bz ak (by simp_all[step])
theorem af7{A:Array Value}{d:Nat}{x y:Value}:(A.setIfInBounds d x).setIfInBounds d y=A.setIfInBounds d y:=axX
theorem af8{d s t e sz:Nat}{lo:Operand}{oI:O}(p:bT n0 gl nt w G ρ lam a st)(a8:o.dst=some d)(bu:d<nt)(bz:o.op=.slice t (.tmp s) (some lo) none none)(aI:bO P 0 lo=some oI)
  (hu:P.underlying t=some (.slice e)) (aO:dc P e=some sz) (hs:step (bx P gl) gl (.so d s sz oI) st K):o.wp P a w (cJ n0 gl nt w G ρ K) Q:=by
 simp[step]at hs;split at hs
 .rename_i z l k n aj aF;obtain⟨aC,hs⟩:=hs;simp only[aAc,aAi,aAE,List.isEmpty_eq_false_iff]at aC;obtain⟨⟨⟨Is,lv⟩,fD⟩,cB⟩:=aC;obtain rfl:z=sz:=aAn Is;have au:=tp (P:=P) p (z:=some lo) (z':=some oI) (dflt:=0) (n:=n) (by grind[nU]) (by grind[bound]) lv;have oO:=p.rel.take (aAI bu p.sz) (s:=s);have dD:=qy (s:=.slot s) (d:=.slot d) p.rel.lt axX axX;have Iu:=oO.aR d;rw[aj]at Iu;have au4:=aAI bu p.sz;have af9:(a.tmps.setIfInBounds d (a.tmps.getD s undef)).getD d undef=a.tmps.getD s undef:=axY;have eh:((st.set s .undef).set d (.own z l)).aR d=.own z l:=by simp[ag.set,dh]
  rw[af9,eh]at Iu;have y8:dn w (c8 (ff (.slot s) (.slot d)) G) ρ (.slot d) (a.tmps.getD s undef) (iz z l):=by rw[Bt cB];exact Iu
  rcases y8.cases with hA|⟨u7,e5,av,eA⟩|⟨_,_,_,av,_⟩
  rotate_left 2
  .grind[Bt]
  .rw[Bt cB]at hA;cases hv:a.tmps.getD s undef<;>rw[hv]at hA<;>cases hA;simp_all
  .obtain⟨rfl,rfl⟩:=Ij (.inl rfl) ((Bt cB).symm.trans av);obtain⟨b,off,cap,c,E,fz,vs,h1,sh,af',aW,bL,cW,hx,hI,iD,kU⟩:=eA.elim id λh=>absurd h.1 cB;have ay:n.toNat<=l.length:=axW;have hmul:n.toNat*z<=cap*z:=aAV _ axW;have au5:(cap-n.toNat)*z=cap*z-n.toNat*z:=Nat.sub_mul _ _ _;have Io:n.toNat*z<=l.length*z:=aAV _ ay;have kz:(l.length-n.toNat)*z=l.length*z-n.toNat*z:=Nat.sub_mul _ _ _;have tF:(l.drop n.toNat).length=l.length-n.toNat:=aBZ;have nZ:=Ec (P:=P) (w:=w) (isSlice:=true) (len:=l.length) (cap:=cap) (lo:=some (a.eval lo)) (hi:=none) (mx:=none) (l:=n.toNat) (h:=l.length) (m:=cap) au (.inl ⟨rfl,rfl⟩) (.inl ⟨rfl,rfl⟩) ay sh (aAd _) axX;have rX:a.eval (.tmp s)=.slice (some ⟨b,off,none⟩) l.length cap:=h1;have dv:(execOp a.eval o).run P w=.ok (.value (.slice (if cap=n.toNat then some ⟨b,off,none⟩else some ((⟨b,off,none⟩:Addr).add (n.toNat*z))) (l.length-n.toNat) (cap-n.toNat))) w:=by
    simp[execOp,bz,rX,Instr.sliceAt,Instr.slice,aAm,eV hu,aAo,aBp,Option.map_none,nZ,aAv,j3 aO]
   have ny:lU w (c8 (ff (.slot s) (.slot d)) G) (.slot d) (.slice (some ⟨b,off+n.toNat*z,none⟩) (l.length-n.toNat) (cap-n.toNat)) z (l.drop n.toNat):=by
    refine⟨b,off+n.toNat*z,cap-n.toNat,c,E,fz,vs.drop (n.toNat*z),axX,axW,af',aW,axW,cW,?_,λq aS=>hI q (List.mem_of_mem_drop aS),?_,?_⟩
    .grind
    .intro j v hv;rw[aBT]at hv;have:=iD _ _ hv;grind
    simp_all[HZ,cl.drop]
   have fm:rQ w (c8 (ff (.slot s) (.slot d)) G) (.slot d) (.slice (if cap=n.toNat then some ⟨b,off,none⟩else some ((⟨b,off,none⟩:Addr).add (n.toNat*z))) (l.length-n.toNat) (cap-n.toNat)) z (l.drop n.toNat):=by
    by_cases az:cap=n.toNat
    .right;simp_all
    .left;simp_all[aA']
   have iX:=oO.set (d:=d) (x:=iz z (l.drop n.toNat)) axY (.lV (.yU fm));have aZ:((st.set s .undef).set d (.own z l)).set d (iz z (l.drop n.toNat))=(st.set s .undef).set d (iz z (l.drop n.toNat)):=by
    unfold ag.set;congr 1;grind[dh]
   rw[aj,aZ]at iX;rw[af7]at iX;refine gb dv (kV p.eO (put_defers _ _ _) ax5 _ ρ lam _ (by rw[a8];exact iX) dD (λ_ _ h=>h) hs)
 .exact hs.elim
theorem aga{d s t e t1:Nat}{x:Operand}{bA:O}(p:bT n0 gl nt w G ρ lam a st)(a8:o.dst=some d)(bu:d<nt)(bz:o.op=.convert s t x)(ak:bO P t1 x=some bA)
  (Bf:P.underlying s=some .string) (tk:P.underlying t=some (.slice e)) (Iv:P.underlying e=some (.int .u8))
  (hs:step (bx P gl) gl (.h' d bA) st K):o.wp P a w (cJ n0 gl nt w G ρ K) Q:=by
 obtain⟨fB,h1⟩:=dQ ak p.rel;simp[step]at hs;split at hs
 .rename_i q aj;rw[aj]at h1;obtain⟨s1,v1,rfl⟩:=h1.str;obtain⟨cap,iF⟩:∃c,c=Question.cut (.appendCap s1.size 0 e) (w.tape w.drawn (.appendCap s1.size 0 e)):=⟨_,rfl⟩;have hle:s1.size<=cap:=by rw[iF];exact Nat.le_add_right _ _
  let zb:Array Value:=s1.data.map λb=>.int .u8 b.toNat;let ob:Obj:=.cells (zb++Array.replicate (cap-s1.size) (Value.int .u8 0)) e (cap,cap+1);have cg:(zb++Array.replicate (cap-s1.size) (Value.int .u8 0)).size=cap:=by
   simp[zb,Array.size_append,Array.size_map,Array.size_replicate];simp_all
  have ax:(execOp a.eval o).run P w=.ok (.value (.slice (some ⟨w.heap.size,0,none⟩) s1.size cap)) {w with drawn:=w.drawn+1,heap:=w.heap.push ob}:=by
   simp only[execOp,bz,v1,convert,aAm,eV Bf,eV tk,eV Iv,aAo,Conv.stringToBytes,run_choose,Question.forced,aA5,aAC,newRow,aCA,aAv,markStringish,run_shape];rw[<-iF];have O0:(World.shape? {w with drawn:=w.drawn+1,heap:=w.heap.push (.cells (zb++Array.replicate (cap-s1.size) (.int .u8 0)) e (0,0))} w.heap.size)=some (e,cap):=by
    grind[World.shape?]
   simp[zb]at O0;simp[O0,aAo,run_freeze];unfold World.freeze;simp;grind
  have ig:(zb++Array.replicate (cap-s1.size) (Value.int .u8 0))=⟨(s1.data.toList.map λb=>Value.int .u8 b.toNat)++(List.replicate (cap-s1.size) (.int .u8 0))⟩:=axZ;have hw:gD w (.cells ⟨(s1.data.toList.map λb=>Value.int .u8 b.toNat)++(List.replicate (cap-s1.size) (.int .u8 0))⟩ e (cap,cap+1)) {w with drawn:=w.drawn+1,heap:=w.heap.push ob}:=⟨axZ,rfl,rfl⟩;refine gb ax (Bp (L0:=.res) (m:=s1.size) p p.rel hw axX a8 bu (.cp (.d _ _ ?_)) hs);have wV:(s1.data.toList.map gk).flatMap D.cells=s1.data.toList.map gk:=by
   generalize s1.data.toList=q;induction q with
   |nil=>rfl
   |cons y ys ih=>simp[aAP,aBw,ih];rfl
  refine .list w.heap.size 0 _ cap 1 _ (s1.data.toList.map λb=>Value.int .u8 b.toNat) axX hle ?_ ?_ ?_
  .intro d aY;simp at aY;obtain⟨y,_,rfl⟩:=aY;rfl
  .exact OG hw axX (by
    intro v hv;simp at hv;obtain⟨y,_,rfl⟩:=hv;rfl)
  .generalize s1.data.toList=q;induction q with
   |nil=>exact .nil
   |cons y ys ih=>exact .cons _ _ _ _ (.int _ _) ih
 .exact hs.elim
theorem O1:∀{l:List D} {s:List UInt8} {vs:List Value},oD l=some s->cl w G vs (l.flatMap D.cells)->∃ns:List Int,vs=ns.map (Value.int .u8)/\ns.map (λn=>UInt8.ofNat n.toNat)=s/\ns.length=l.length
 |[],s,vs,h,ax=>by
  simp[oD,aAe]at h;subst h;cases ax;simp
 |x::l,s,vs,h,ax=>by
  cases x<;>first|(simp[oD,reduceCtorEq]at h)|skip
  rename_i k n;cases k<;>first|(simp[oD,reduceCtorEq]at h;done)|skip
  simp[oD]at h;cases au:oD l with
  |none=>simp[au]at h
  |some s'=>
   simp[au,aAe]at h;subst h;have gS:=ax;cases gS with
   |cons v _ qD _ h1 sh=>
    cases h1;obtain⟨ns,rfl,rfl,bL⟩:=O1 au sh;exact⟨n::ns,rfl,rfl,by simp[bL]⟩
theorem agb{d s t e t1:Nat}{x:Operand}{bA:O}(p:bT n0 gl nt w G ρ lam a st)(a8:o.dst=some d)(bu:d<nt)(bz:o.op=.convert s t x)(ak:bO P t1 x=some bA)
  (Bf:P.underlying s=some (.slice e)) (tk:P.underlying t=some .string) (Iv:P.underlying e=some (.int .u8))
  (hs:step (bx P gl) gl (.bs d bA) st K):o.wp P a w (cJ n0 gl nt w G ρ K) Q:=by
 obtain⟨fB,h1⟩:=dQ ak p.rel;simp[step]at hs;split at hs
 .rename_i sz l aj;split at hs
  .rename_i q aS;obtain⟨cF,cap,v1,iF,ky⟩:=(h1.hr aj).slice;have au6:=run_convert_bytes_string (P:=P) w s t e cF l.length cap Bf Iv tk;by_cases cB:l=[]
   .subst cB;simp[oD,aAe]at aS;subst aS;have au:(Conv.bytesToString (.slice cF 0 cap)).run P w=.ok (.string .empty) w:=by
     cases cF with
     |none=>rfl
     |some cF=>rfl
    refine p.value a8 bu (v:=.string .empty) ?_ (.cp (.d _ _ (.str _ _ rfl))) hs;grind[execOp,Sem.run_bind,Result.andThen_ok,Sem.run_pure]
   .obtain⟨b,off,vs,rfl,hw,az,ax⟩:=ky cB;obtain⟨ns,rfl,rfl,hlen⟩:=O1 aS ax;have agc:(loadCells ⟨b,off,none⟩ l.length).run P w=.ok (ns.map (Value.int .u8)).toArray w:=by
     have:=aBX (P:=P) w ⟨b,off,none⟩ (ns.map (Value.int .u8)) (λj v hv=>by rw[aA'];exact(az j v hv).1);simp_all
    have au:=run_bytesToString (P:=P) w ⟨b,off,none⟩ l.length cap ns agc;refine p.value a8 bu (v:=.string (ns.foldl (λr n=>r.push (UInt8.ofNat n.toNat)) ByteArray.empty)) ?_ (.cp (.d _ _ (.str _ _ ?_))) hs
    .grind[execOp,Sem.run_bind,Result.andThen_ok,Sem.run_pure]
    .have:∀(ns:List Int) (r:ByteArray),(ns.foldl (λr n=>r.push (UInt8.ofNat n.toNat)) r).data.toList=r.data.toList++ns.map (λn=>UInt8.ofNat n.toNat):=by
      intro ns;induction ns with
      |nil=>simp
      |cons n ns ih=>
       simp_all
     simp_all
  .exact hs.elim
 .exact hs.elim
theorem O2(n m:Nat)(em:Bool)(ih:∀(t:Nat) (ks:List Nat) (vs:List Value) (v:Value),kinds P n t=some ks->vs.length=ks.length->shaped P t vs v->(Instr.checkKey em m t v).run P w=.ok () w)(V:Array Value):
  ∀(fs:List Field) (off:Nat) (ks:List Nat),rL P (kinds P n) fs off=some ks->off+ks.length<=V.size->
   (forIn (m:=Sem) fs PUnit.unit λf _=>do
    if f.name≠ "_" then Instr.checkKey em m f.type (<-part f.type V f.offset)
    pure (ForInStep.yield PUnit.unit)).run P w=.ok PUnit.unit w
 |[],_,_,_,_=>rfl
 |f::fs,off,ks,h,aI=>by
  unfold rL at h;split at h
  .rename_i ay;obtain⟨tm,D8⟩:=ay;cases aq:kinds P n f.type with
   |none=>simp_all
   |some k1=>
    simp[aq]at h;cases bh:rL P (kinds P n) fs (off+k1.length)with
    |none=>simp_all
    |some k2=>
     simp only[bh]at h;split at h
     .rename_i cg;simp at h;subst h;simp at aI;obtain⟨aDl,D',lX⟩:=Bh (off:=off) aq cg V axW (Bi aq) w;have rT:=ih f.type k1 _ aDl aq axZ lX;have u3:=O2 n m em ih V fs (off+k1.length) k2 bh axW;simp_all
     simp_all
  simp_all
theorem Iw(em:Bool):∀(n m t:Nat) (ks:List Nat) (vs:List Value) (v:Value),kinds P n t=some ks->n<=m->vs.length=ks.length->shaped P t vs v->(Instr.checkKey em m t v).run P w=.ok () w
 |0,_,_,_,_,_,h,_,_,_=>by grind[kinds]
 |n+1,0,_,_,_,_,_,h,_,_=>absurd h axW
 |n+1,m+1,t,ks,vs,v,h,hm,aI,lX=>by
  unfold kinds at h;cases aE:P.underlying t with
  |none=>simp_all
  |some desc=>
   simp[aE]at h;cases desc<;>simp only[reduceCtorEq,aAe]at h;case struct fs=>
    have hs:gp P t=true:=ayv;unfold shaped at lX;rw[aAD hs]at lX;split at h
    .have:=O2 n m em (λt ks vs v h1 sh av=>Iw em n m t ks vs v h1 axW sh av) ⟨vs⟩ fs.toList 0 ks h axZ;simp_all[Instr.checkKey,eV]
    simp_all
   all_goals
    simp_all[Instr.checkKey,eV]
theorem au7{ks:List Nat}{x y:D}{r:Bool}(OY:cA ks x.cells y.cells=some r):True:=trivial
def zc(w:World)(G:bI)(ρ:List Nat)(mes:List MapEntry)(es:List (D×ah)):Prop:=h4 (λe p=>Rd w G e.key p.1/\df w G ρ e.val p.2) mes es
theorem Ix{mes:Array MapEntry}{es:List (D×ah)}(aI:mes.size=es.length)(h:∀(j:Nat) (e:MapEntry) (p:D×ah),mes[j]?=some e->es[j]?=some p->Rd w G e.key p.1/\df w G ρ e.val p.2):zc w G ρ mes.toList es:=by
 have key:∀(l:List MapEntry) (es:List (D×ah)),l.length=es.length->(∀(j:Nat) (e:MapEntry) (p:D×ah),l[j]?=some e->es[j]?=some p->Rd w G e.key p.1/\df w G ρ e.val p.2)->zc w G ρ l es:=by
  intro l;induction l with
  |nil=>intro es aI _;cases es with|nil=>exact .nil|cons=>simp_all
  |cons e l ih=>
   intro es aI h;cases es with
   |nil=>simp_all
   |cons p es=>exact .cons (h 0 e p rfl rfl) (ih es axZ λj e p h1 sh=>h (j+1) e p axZ axZ)
 grind
def foundAt(mes:List MapEntry)(i:Nat):Option Nat->Option (Nat×Value)
 |none=>none
 |some j=>(mes[j-i]?).map λe=>(j,e.val)
theorem BD{ai:Bool}{ks:List Nat}{k:D}:∀{es:List (D×ah)} {i j:Nat},e3 ai ks k es i=some (some j)->i<=j/\j<i+es.length
 |[],i,j,h=>by grind[e3]
 |e::es,i,j,h=>by
  simp[e3]at h;cases aC:fe ai e.1 with
  |false=>simp_all
  |true=>
   simp[aC,aAg]at h;split at h
   .simp_all
   .have:=BD h;grind
   simp_all
theorem O3{fr:Nat}{ks:List Nat}{ai:Bool}{u:Value}{k:D}(aq:kinds P 10 fr=some ks)(dB:gp P fr=ai)(hu:Rd w G u k)(bp:fe ai k=true):
  ∀{mes:List MapEntry} {es:List (D×ah)} {i:Nat} {r:Option Nat},zc w G ρ mes es->e3 ai ks k es i=some r->(Instr.findAsking fr u mes i).run P w=.ok (foundAt mes i r) w
 |[],_,i,r,h,bh=>by
  cases h;simp[e3,aAe]at bh;subst bh;rfl
 |e::mes,_,i,r,h,bh=>by
  cases h with
  |cons he h=>
   rename_i p es;simp[e3]at bh;cases pF:fe ai p.1 with
   |false=>simp_all
   |true=>
   simp[pF,aAg]at bh;cases aS:cA ks k.cells p.1.cells with
   |none=>simp_all
   |some b=>
    have heq:=aeV (P:=P) aq dB hu he.1 bp pF aS;simp[aS]at bh;cases b with
    |true=>
     simp at bh;subst bh;simp_all[Instr.findAsking,foundAt]
    |false=>
     have ih:=O3 aq dB hu bp h bh;simp only[Instr.findAsking,aAm,heq,aAo,aA5,aAC,ih];congr 1;cases r with
     |none=>rfl
     |some j=>
      have kx:=(BD bh).1;grind[foundAt]
theorem agd{fr:Nat}{ks:List Nat}{desc:TypeDesc}{u v:Value}{x y:D}{r:Bool}(aq:kinds P 10 fr=some ks)(aY:P.underlying fr=some desc)(dB:gp P fr=false)(ak:Rd w G u x)(wa:Rd w G v y)(bw:fe false x=true)(a2:fe false y=true)
  (he:cA ks x.cells y.cells=some r):Instr.sameNow desc u v=some r:=by
 have age:x.cells=[x]:=by cases x<;>first|rfl|grind[fe]
 have agf:y.cells=[y]:=by cases y<;>first|rfl|grind[fe]
 rw[age,agf]at he;unfold kinds at aq;simp[aY]at aq;cases desc<;>simp at aq;case bool=>
  subst aq;obtain⟨p,q,rfl,rfl,rfl⟩:=D7 he;cases ak;cases wa;rfl
 case int=>
  subst aq;obtain⟨k,p,q,rfl,rfl,rfl⟩:=Oc he;cases ak;cases wa;simp[Instr.sameNow,Oa]
 case string=>
  subst aq;obtain⟨p,q,rfl,rfl,rfl⟩:=Od he;cases ak with|str s1 _ h1=>cases wa with|str s2 _ sh=>simp_all[Instr.sameNow,beq_toListBytes,aBI,yY]
 grind[gp]
theorem O4{fr:Nat}{ks:List Nat}{desc:TypeDesc}{u:Value}{k:D}(aq:kinds P 10 fr=some ks)(aY:P.underlying fr=some desc)(dB:gp P fr=false)(hu:Rd w G u k)(bp:fe false k=true):
  ∀{mes:List MapEntry} {es:List (D×ah)} {i:Nat} {r:Option Nat},zc w G ρ mes es->e3 false ks k es i=some r->Instr.findNow desc u mes i=some (foundAt mes i r)
 |[],_,i,r,h,bh=>by
  cases h;simp[e3,aAe]at bh;subst bh;rfl
 |e::mes,_,i,r,h,bh=>by
  cases h with
  |cons he h=>
   rename_i p es;simp[e3]at bh;cases pF:fe false p.1 with
   |false=>simp_all
   |true=>
   simp[pF,aAg]at bh;cases aS:cA ks k.cells p.1.cells with
   |none=>simp_all
   |some b=>
    have heq:=agd (P:=P) aq aY dB hu he.1 bp pF aS;simp[aS]at bh;cases b with
    |true=>
     simp at bh;subst bh;simp_all[Instr.findNow,foundAt]
    |false=>
     have ih:=O4 aq aY dB hu bp h bh;simp only[Instr.findNow,heq,ih];cases r with
     |none=>rfl
     |some j=>
      have kx:=(BD bh).1;grind[foundAt]
theorem zd{fr:Nat}{ks:List Nat}{ai:Bool}{u:Value}{k:D}(aq:kinds P 10 fr=some ks)(dB:gp P fr=ai)(hu:Rd w G u k)(bp:fe ai k=true)
  {mes:List MapEntry} {es:List (D×ah)} {r:Option Nat} (h:zc w G ρ mes es) (bh:e3 ai ks k es 0=some r):(Instr.findKey fr u mes).run P w=.ok (foundAt mes 0 r) w:=by
 have aY:∃desc,P.underlying fr=some desc:=by
  grind[kinds]
 obtain⟨desc,aY⟩:=aY;unfold Instr.findKey;simp[aAm,eV aY,aAo];cases ai with
 |false=>
  rw[O4 aq aY dB hu bp h bh];rfl
 |true=>
  have au8:=O3 aq dB hu bp h bh;cases mes with
  |nil=>
   cases h;simp[e3,aAe]at bh;subst bh;rfl
  |cons e mes=>
   grind[Instr.findNow,gp,Instr.sameNow]
end
end Go.aH
