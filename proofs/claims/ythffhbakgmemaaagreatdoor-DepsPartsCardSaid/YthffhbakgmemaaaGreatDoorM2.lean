/- Part of parts_said. -/
import Derived.Test.YthffhbakgmemaaaGreatDoorM1
set_option linter.defProp false
set_option maxRecDepth 100000
set_option maxHeartbeats 8000000
set_option linter.unusedSimpArgs false
set_option linter.unusedVariables false
namespace Go.aG
variable {p:Prop}
def aEk:=@Array.getElem?_push
def aDj:=@List.getElem?_append_left
def aFk:=@Option.bind_some
def aEM:=@List.length_eq_one_iff
def aCM:=@Nat.le_of_ble_eq_true
theorem aAe(h:p:=by rw[jd];exact p.sz):p:=h
theorem aAv(h:p:=by rw[fQ,iO]):p:=h
theorem aA6(h:p:=by grind[World.cell?]):p:=h
theorem aA7(h:p:=by simp[h.ob.1]):p:=h
theorem aBg(h:p:=by simp_all[fQ,nK,Nat.ne_of_lt]):p:=h
theorem aBB(h:p:=by rw[<-h.ob.1];simp):p:=h
theorem aBC(h:p:=by simp_all[execOp,Instr.alloc,newVar,newRow,sD]):p:=h
theorem aBD(h:p:=by simp_all[execOp,Instr.box,newVar,newRow]):p:=h
theorem aBE(h:p:=by have:=p.rel.ob.at au;simp_all):p:=h
section
variable {P:Program}{gl:Nat->List D}{n0 nt:Nat}{a:Act}{w w':World}{G G':bL}{ρ ρ':List Nat}{lam lam':Nat->Option Nat}{st aU:ag}{K:ag->Prop}{o:Oper}{Q:Exit->Act->World->Prop}
theorem agF{b off:Nat}{v:Value}(h:w.cell? ⟨b,off,none⟩=some v):b<w.heap.size:=aA6
theorem zM{b off:Nat}(h:w'.heap[b]?=w.heap[b]?):w'.cell? ⟨b,off,none⟩=w.cell? ⟨b,off,none⟩:=aA6
theorem cell_of_block{b j:Nat}{c:Array Value}{E:TypeId}{fz:Nat×Nat}(h:w.heap[b]?=some (.cells c E fz)):w.cell? ⟨b,j,none⟩=c[j]?:=aA6
theorem tZ{b j:Nat}{c:Array Value}{E:TypeId}{fz:Nat×Nat}(h:w.heap[b]?=some (.cells c E fz)):w.frozen? ⟨b,j,none⟩=(decide (fz.1<=j)&&decide (j<fz.2)):=by
 grind[World.frozen?]
structure gD(w:World)(ob:Obj)(w':World):Prop where
 heap:w'.heap=w.heap.push ob
 os:w'.os=w.os:=by rfl
 out:w'.output=w.output:=by rfl
def fQ(w:World)(G:bL)(L:Loc)(n:Nat):bL:=cK G w.heap.size (some (L,n))
section
variable {ob:Obj}{L0:Loc}{n0:Nat}(hw:gD w ob w')(ay:∀b L n,G b=some (L,n)->b<w.heap.size)
include hw
theorem gD.old{b:Nat}(au:b<w.heap.size):w'.heap[b]?=w.heap[b]?:=by
 rw[hw.heap,aEk];grind
theorem gD.new:w'.heap[w.heap.size]?=some ob:=by rw[hw.heap,aEk];simp
theorem gD.size:w'.heap.size=w.heap.size+1:=by rw[hw.heap];simp
theorem gD.keeps:de w G w' (fQ w G L0 n0):=by
 refine⟨?_,?_,?_⟩;rotate_left 2
 .intro b n h;obtain⟨c,E,f,a,d⟩:=h;have au:=(aC'.1 a).1;exact⟨c,E,f,(hw.old au).trans a,d⟩
 .intro b g v h;have au:=agF h.1;refine⟨by rw[zM (hw.old au)];exact h.1,?_,h.2.2⟩;intro L n dh;rw[fQ,nK _ _ (Nat.ne_of_lt au)]at dh;exact h.2.1 _ _ dh
 .intro b o h;obtain⟨h1,d,a⟩:=h;have au:=(aC'.1 a).1;exact⟨aBg,d,(hw.old au).trans a⟩
include ay
theorem gD.same(L:Loc):e5 L L w G w' (fQ w G L0 n0):=λb n h=>by
 have au:=ay _ _ _ h;exact⟨hw.old au,aBg⟩
theorem gD.good(bB:L0≠.foreign):Good w G w' (fQ w G L0 n0) where
 size:=by grind[size]
 iN b au _:=⟨hw.old au,aBg⟩
 new b n au dh:=by
  rw[fQ,dm]at dh;grind
 old b n au dh:=aBg
 keep:=hw.keeps
 os:=hw.os
 out:=hw.out
theorem gD.lt:∀b L n,fQ w G L0 n0 b=some (L,n)->b<w'.heap.size:=λb L n h=>by
 rw[fQ,dm]at h;grind[size]
theorem gD.rel{tmps:Array Value}(h:b2 gl w G ρ lam tmps st):b2 gl w' (fQ w G L0 n0) ρ lam tmps st where
 aR t:=(h.aR t).b0 hw.keeps (λ_ _ h=>h) (λ_ _ h=>h) (hw.same ay _)
 bM t cs au:=by
  obtain⟨b,h1,a⟩:=h.bM t cs au;exact⟨b,h1,dC.b0 hw.keeps (λ_ _ h=>h) (hw.same ay _) (λ_=>hw.same ay _) a⟩
 nb:=h.nb
 ob:=h.ob.b0 hw.keeps (λ_=>hw.same ay _) (λ_ _=>hw.same ay _)
 eU:=h.eU.b0 hw.keeps
 lt:=hw.lt ay
end
theorem xB{cs:List ah}{vs:List Value}{L0:Loc}{LC:Nat->Loc}{E:TypeId}(a:gD w (.cells ⟨vs⟩ E) w')(c:cu w G ρ vs cs):
  dC w' (fQ w G L0 0) ρ w.heap.size L0 LC cs:=
 ⟨⟨vs⟩,E,(0,0),a.new,az7,aAv,aAF,λj v x f d=>.cz ((c.get az8 d).keep a.keeps λ_ _ h=>h)⟩
theorem b2.newLocal{d:Nat}{cs:List ah}{vs:List Value}{E:TypeId}(h:b2 gl w G ρ lam a.tmps st)(k:gD w (.cells ⟨vs⟩ E) w')(l:cu w G ρ vs cs)(j:d<a.tmps.size)(au:st.bM d=none):
  b2 gl w' (fQ w G (.sr d) 0) ρ (cK lam d (some w.heap.size)) (a.tmps.setIfInBounds d (.pointer (some ⟨w.heap.size,0,none⟩))) ((st.eg d cs).set d (.dw d 0)):=by
 have g:∀t b,lam t=some b->cK lam d (some w.heap.size) t=some b:=by
  grind[nK,nb]
 have bB:=k.rel (L0:=.sr d) (n0:=0) h.lt h;refine b2.set (st:=st.eg d cs) ⟨λt=> ?_,?_,?_,bB.ob,bB.eU,bB.lt⟩ j ⟨w.heap.size,iO _ _ _,rfl⟩
 .exact(bB.aR t).b0 (de.refl _ _) (λ_ _ h=>h) g (λb n h=>⟨rfl,h⟩)
 .intro t m c;simp[ag.eg,dm]at c;by_cases f:t=d
  .subst f;grind[iO,xB]
  .grind[bM]
 .intro t c;simp[ag.eg,dm]at c;by_cases f:t=d
  .simp_all
  .grind[nK,nb]
theorem E2{a:Type}{l:List a}{x y:a}{i:Nat}(h:(l++[x])[i]?=some y):l[i]?=some y\/(i=l.length/\x=y):=az9
theorem b2.newObj{d:Nat}{cs:List ah}{vs:List Value}{E:TypeId}(h:b2 gl w G ρ lam a.tmps st)(g:gD w (.cells ⟨vs⟩ E) w')(k:cu w G ρ vs cs)(p:d<a.tmps.size):
  b2 gl w' (fQ w G (.obj st.s.length) 0) (ρ++[w.heap.size+1]) lam (a.tmps.setIfInBounds d (.pointer (some ⟨w.heap.size,0,none⟩))) ({st with s:=st.s++[cc.box cs]}.set d (.ptr st.s.length 0)):=by
 have f:∀i b:Nat,ρ[i]?=some (b+1)->(ρ++[w.heap.size+1])[i]?=some (b+1):=az9;have bB:=g.rel (L0:=.obj st.s.length) (n0:=0) h.lt h;have B:=g.keeps (G:=G) (L0:=.obj st.s.length) (n0:=0);refine b2.set (st:={st with s:=st.s++[cc.box cs]}) ⟨λt=> ?_,?_,bB.nb,⟨aA7,?_⟩,bB.eU,bB.lt⟩ p (.cz (.ptr _ _ _ aBB))
 .exact(bB.aR t).b0 (de.refl _ _) f (λ_ _ h=>h) (λb n h=>⟨rfl,h⟩)
 .intro t v l;obtain⟨b,h1,m⟩:=bB.bM t v l;exact⟨b,h1,dC.b0 (de.refl _ _) f (λb n h=>⟨rfl,h⟩) (λj b n h=>⟨rfl,h⟩) m⟩
 .intro i b o au c;rcases E2 au with u|⟨hi,A⟩
  .have r:i<st.s.length:=by
    rw[<-h.ob.1];grind
   rw[aDj r]at c;exact(bB.ob.2 i b o u c).b0 (de.refl _ _) f (λb n h=>⟨rfl,h⟩) (λj b n h=>⟨rfl,h⟩)
  .obtain rfl:w.heap.size=b:=by omega
   have z:i=st.s.length:=by rw[<-h.ob.1];omega
   subst z;simp at c;subst c;exact dC.b0 (de.refl _ _) f (λb n h=>⟨rfl,h⟩) (λj b n h=>⟨rfl,h⟩) (xB (LC:=.dk st.s.length) g k)
theorem om{t:Nat}{z:List ah}(h:zeros P t=some z):∃i v,P.info? t=some i/\i.zero=some v/\v.cells.size=z.length/\i.size=z.length/\∀{w G ρ},cu w G ρ v.cells.toList z:=by
 unfold zeros at h;simp at h;cases h1:oY P 20 t with
 |none=>simp_all
 |some cs=>
  cases d:P.info? t with
  |none=>simp_all
  |some i=>
   cases c:i.zero with
   |none=>simp_all
   |some v=>
    simp only[h1,d,c,aFk]at h;split at h
    .rename_i a;simp at h;subst h;simp only[aCx,aCA]at a;exact⟨i,v,rfl,c,a.1.1,a.1.2,I1 az8 a.2⟩
    simp_all
theorem sD{t:Nat}{i:TypeInfo}{v:Value}(h:P.info? t=some i)(a:i.zero=some v)(w:World):(zeroValue t).run P w=.ok v w:=by
 simp_all[zeroValue,typeInfo]
theorem agH{d e:Nat}{z:List ah}(p:b6 n0 gl nt w G ρ lam a st)(l:o.dst=some d)(m:d<nt)(t:o.op=.alloc e)(j:zeros P e=some z)
  (c:step (bA P gl) gl (.ll d z) st K):o.wp P a w (cP n0 gl nt w G ρ K) Q:=by
 obtain⟨i,v,h1,r,s,n,k⟩:=om j;simp[step]at c;split at c
 .rename_i au;have g:(execOp a.eval o).run P w=.ok (.value (.pointer (some ⟨w.heap.size,0,none⟩))) {w with heap:=w.heap.push (.cells v.cells e)}:=aBC;have f:gD w (.cells ⟨v.cells.toList⟩ e) {w with heap:=w.heap.push (.cells v.cells e)}:=⟨rfl,rfl,rfl⟩;refine gg g (lx p.eT (put_defers _ _ _) aAe _ ρ (cK lam d (some w.heap.size)) _ ?_ (f.good p.rel.lt (L0:=.sr d) (n0:=0) az7) (λ_ _ h=>h) c);rw[l];exact p.rel.newLocal f k (aC2 m p.sz) au
 .exact c.elim
theorem agI{d e:Nat}{z:List ah}(p:b6 n0 gl nt w G ρ lam a st)(k:o.dst=some d)(l:d<nt)(t:o.op=.alloc e)(g:zeros P e=some z)
  (m:step (bA P gl) gl (.bn d z) st K):o.wp P a w (cP n0 gl nt w G ρ K) Q:=by
 obtain⟨i,v,h1,r,s,n,j⟩:=om g;have f:(execOp a.eval o).run P w=.ok (.value (.pointer (some ⟨w.heap.size,0,none⟩))) {w with heap:=w.heap.push (.cells v.cells e)}:=aBC;have c:gD w (.cells ⟨v.cells.toList⟩ e) {w with heap:=w.heap.push (.cells v.cells e)}:=⟨rfl,rfl,rfl⟩;refine gg f (lx p.eT (put_defers _ _ _) aAe _ (ρ++[w.heap.size+1]) lam _ ?_ (c.good p.rel.lt (L0:=.obj st.s.length) (n0:=0) az7) iP m);rw[k];exact p.rel.newObj c j (aC2 l p.sz)
theorem c7.cells{v:Value}{x:ah}{n:Nat}(h:c7 w G ρ v x)(A:(cellsOf x).all (eo n)=true):cu w G ρ v.cells.toList (cellsOf x):=by
 cases h with
 |undef v=>grind[cellsOf,eo]
 |agg vs cs h=>exact h
 |d v y h=>
  cases h with
  |agg vs cs h=>exact h.ER
  |bool b=>exact .cons _ _ _ _ (.d _ _ (.bool b)) .nil
  |int k n=>exact .cons _ _ _ _ (.d _ _ (.int k n)) .nil
  |str s l h=>exact .cons _ _ _ _ (.d _ _ (.str s l h)) .nil
  |dJ=>exact .cons _ _ _ _ (.d _ _ .dJ) .nil
  |h9=>exact .cons _ _ _ _ (.d _ _ .h9) .nil
  |lL=>exact .cons _ _ _ _ (.d _ _ .lL) .nil
  |iK=>exact .cons _ _ _ _ (.d _ _ .iK) .nil
  |fn f=>exact .cons _ _ _ _ (.d _ _ (.fn f)) .nil
  |iface t v x h=>exact .cons _ _ _ _ (.d _ _ (.iface t v x h)) .nil
  |kZ a c s=>exact .cons _ _ _ _ (.d _ _ (.kZ a c s)) .nil
  |list b off n cap sz l vs h1 g m j p=>exact .cons _ _ _ _ (.d _ _ (.list b off n cap sz l vs h1 g m j p)) .nil
  |e2 b base off vs cs h1 g=>exact .cons _ _ _ _ (.d _ _ (.e2 b base off vs cs h1 g)) .nil
  |ix t v=>exact .cons _ _ _ _ (.d _ _ (.ix t v)) .nil
  |lM b r u kl z ks vs h1 g m j=>exact .cons _ _ _ _ (.d _ _ (.lM b r u kl z ks vs h1 g m j)) .nil
 |nil a sz=>exact .cons _ _ _ _ (.nil _ _) .nil
 |ptr i off b h=>exact .cons _ _ _ _ (.ptr _ _ _ h) .nil
 |map i b h=>exact .cons _ _ _ _ (.map _ _ h) .nil
 |aP i off len cap B sz b h o aM=>exact .cons _ _ _ _ (.aP _ _ _ _ _ _ _ h o aM) .nil
 |func f C cs a c h1 g=>exact .cons _ _ _ _ (.func _ _ _ _ _ h1 g) .nil
 |tuple vs cs h=>exact .cons _ _ _ _ (.tuple _ _ h) .nil
 |f' i l h=>exact .cons _ _ _ _ (.f' _ _ h) .nil
theorem agJ{v:Value}{x:ah}{L:Loc}{n:Nat}(h:dq w G ρ lam L v (snap x))(c:(cellsOf (snap x)).all (eo n)=true):c7 w G ρ v (snap x):=by
 rcases h.cases with h|⟨t,off,b,e,h1,a⟩
 .have:=h.snap;have d:snap (snap x)=snap x:=by cases x<;>rfl
  simp_all
 grind[cellsOf,eo]
theorem E4{v:Value}{x:ah}{L:Loc}{n:Nat}(h:dq w G ρ lam L v x)(a:(cellsOf (gT x)).all (eo n)=true):c7 w G ρ v (gT x):=by
 unfold gT at a⊢;split at a
 .exact h
 .exact agJ (h.snap (L':=.res)) a
theorem agK{d e n v:Nat}{x:Operand}{g:O}(p:b6 n0 gl nt w G ρ lam a st)(r:o.dst=some d)(s:d<nt)(A:o.op=.box e x)(l:bW P v x=some g)
  (c:step (bA P gl) gl (.fV d g n) st K):o.wp P a w (cP n0 gl nt w G ρ K) Q:=by
 simp[step]at c;split at c
 .rename_i au;obtain⟨f,c⟩:=c;simp only[aCx]at f;obtain⟨z,u⟩:=dY l p.rel;have t:=E4 u f.2;have m:=t.cells f.2;have k:(execOp a.eval o).run P w=.ok (.value (.pointer (some ⟨w.heap.size,0,none⟩))) {w with heap:=w.heap.push (.cells (a.eval x).cells e)}:=aBD;have j:gD w (.cells ⟨(a.eval x).cells.toList⟩ e) {w with heap:=w.heap.push (.cells (a.eval x).cells e)}:=⟨rfl,rfl,rfl⟩;refine gg k (lx p.eT (put_defers _ _ _) aAe _ ρ (cK lam d (some w.heap.size)) _ ?_ (j.good p.rel.lt (L0:=.sr d) (n0:=0) az7) (λ_ _ h=>h) c);rw[r];exact p.rel.newLocal j m (aC2 s p.sz) au
 .exact c.elim
theorem agL{d e n v:Nat}{x:Operand}{g:O}(p:b6 n0 gl nt w G ρ lam a st)(r:o.dst=some d)(s:d<nt)(A:o.op=.box e x)(l:bW P v x=some g)
  (f:step (bA P gl) gl (.au d g n) st K):o.wp P a w (cP n0 gl nt w G ρ K) Q:=by
 obtain⟨c,f⟩:=f;simp only[aCx]at c;obtain⟨z,u⟩:=dY l p.rel;have t:=E4 u c.2;have m:=t.cells c.2;have k:(execOp a.eval o).run P w=.ok (.value (.pointer (some ⟨w.heap.size,0,none⟩))) {w with heap:=w.heap.push (.cells (a.eval x).cells e)}:=aBD;have j:gD w (.cells ⟨(a.eval x).cells.toList⟩ e) {w with heap:=w.heap.push (.cells (a.eval x).cells e)}:=⟨rfl,rfl,rfl⟩;refine gg k (lx p.eT (put_defers _ _ _) aAe _ (ρ++[w.heap.size+1]) lam _ ?_ (j.good p.rel.lt (L0:=.obj st.s.length) (n0:=0) az7) iP f);rw[r];exact p.rel.newObj j m (aC2 s p.sz)
theorem dC.range{b:Nat}{L:Loc}{LC:Nat->Loc}{cs:List ah}(h:dC w G ρ b L LC cs){off n:Nat}(f:off+n<=cs.length):
  ∃vs:List Value,vs.length=n/\w.rangeAt b off vs/\∀j v x,vs[j]?=some v->((cs.drop off).take n)[j]?=some x->dp w G ρ (LC (off+j)) v x:=by
 obtain⟨c,E,l,h1,d,g,a,k⟩:=h;refine⟨(c.toList.drop off).take n,az9,?_,?_⟩
 .intro j v m;grind[cell_of_block]
 grind
theorem B6{b off t n:Nat}{aw:Bool}{L:Loc}{LC:Nat->Loc}{cs:List ah}(h:dC w G ρ b L LC cs)(m:off+n<=cs.length)(k:df P t=some n)(z:kW P t=some aw)(h1:aw=false->n=1):
  ∃v,(Instr.loadAt t (.pointer (some ⟨b,off,none⟩))).run P w=.ok v w/\c7 w G ρ v (valOf cs off n aw):=by
 obtain⟨a,f,c,g⟩:=h.range m;have r:(P.info? t).map (·.size)=some a.length:=by rw[f];exact k
 cases aw with
 |true=>
  have:∃d,P.underlying t=some d/\d.isRow=true:=by
   grind[kW]
  obtain⟨d,p,o⟩:=this;refine⟨.agg a.toArray,run_loadAt_mid w b off t a d c p o r,?_⟩;exact ES (LC:=λj=>LC (off+j)) az9 g
 |false=>
  obtain rfl:=h1 rfl;obtain⟨v,rfl⟩:=aEM.1 f;refine⟨v,?_,?_⟩
  .have u:=c 0 v rfl;simp_all[Instr.loadAt,Instr.sureAddr,loadVar,xr]
  .have s:cs[off]?=some (cs.getD off .undef):=by grind
   have l:((cs.drop off).take 1)[0]?=some (cs.getD off .undef):=az9;exact(g 0 v (cs.getD off .undef) rfl l).snap
theorem agM{d t s off n M:Nat}{aw:Bool}{x:Operand}{j:O}(p:b6 n0 gl nt w G ρ lam a st)(B:o.dst=some d)(E:d<nt)(N:o.op=.load t x)(u:bW P M x=some j)
  (r:df P t=some n) (H:kW P t=some aw) (h1:aw=false->n=1) (c:step (bA P gl) gl (.ia d j s off n aw) st K):o.wp P a w (cP n0 gl nt w G ρ K) Q:=by
 obtain⟨U,f⟩:=dY u p.rel;simp[step]at c;split at c
 .rename_i k F cs z l;obtain⟨g,c⟩:=c;simp only[aCx]at g;obtain⟨⟨m,C⟩,A⟩:=g;obtain rfl:k=s:=aCG m;obtain rfl:F=off:=aCG C;rw[z]at f;obtain⟨b,au,V⟩:=f;obtain⟨R,J,L⟩:=p.rel.bM k cs l;rw[J]at au;simp at au;obtain⟨v,S,dn⟩:=B6 L (aCM A) r H h1;refine p.value B E (v:=v) ?_ (.cz dn) c;grind[execOp,Sem.run_bind,Result.andThen_ok,Sem.run_pure]
 .exact c.elim
theorem gK.at{s:aY}(h:gK w G ρ s){i b:Nat}(hi:ρ[i]?=some (b+1)):ky w G ρ i b (s.getD i .dead):=by
 have a:i<s.length:=by
  rw[<-h.1];grind
 exact h.2 i b _ hi az8
theorem agN{b base off t n:Nat}{aw:Bool}{vs:List Value}{cs:List D}(f:jc w G b base vs)(c:cw w G vs cs)(u:off+n<=cs.length)(g:df P t=some n)(z:kW P t=some aw)(h1:aw=false->n=1):
  ∃v,(Instr.loadAt t (.pointer (some ⟨b,base+off,none⟩))).run P w=.ok v w/\Rd w G v (cond aw (.agg ((cs.drop off).take n)) (cs.getD off .dJ)):=by
 have s:=c.length;have p:=λj v a=>(f.sub off n j v a).1;have m:((vs.drop off).take n).length=n:=az9;cases aw with
 |true=>
  have:∃d,P.underlying t=some d/\d.isRow=true:=by
   grind[kW]
  obtain⟨d,o,l⟩:=this;exact⟨.agg ((vs.drop off).take n).toArray,run_loadAt_mid w b _ t _ d p o l (by rw[m];exact g),.agg _ _ ((c.drop off).take n)⟩
 |false=>
  obtain rfl:=h1 rfl;have k:off<vs.length:=az6;have a:=aCB k;have r:=(f off _ a).1;refine⟨vs[off],?_,c.get a az9⟩;simp_all[Instr.loadAt,Instr.sureAddr,loadVar,xr]
theorem agO{d t n H:Nat}{aw:Bool}{x:Operand}{m:O}(p:b6 n0 gl nt w G ρ lam a st)(l:o.dst=some d)(r:d<nt)(L:o.op=.load t x)(A:bW P H x=some m)
  (k:df P t=some n) (u:kW P t=some aw) (h1:aw=false->n=1) (c:step (bA P gl) gl (.aE d m n aw) st K):o.wp P a w (cP n0 gl nt w G ρ K) Q:=by
 obtain⟨M,f⟩:=dY A p.rel;simp[step]at c;split at c
 .rename_i i off g;rw[g]at f;have z:=f;cases j:a.eval x<;>rw[j]at z<;>cases z;rename_i b au;split at c
  .rename_i cs J;obtain⟨aq,c⟩:=c;simp only[aCx]at aq;replace aq:=aq.1;have E:ky w G ρ i b (.box cs):=aBE;obtain⟨v,C,dn⟩:=B6 (show dC w G ρ b (.obj i) (.dk i) cs from E) (aCM aq) k u h1;refine p.value l r (v:=v) ?_ (.cz dn) c;grind[execOp,Sem.run_bind,Result.andThen_ok,Sem.run_pure]
  .exact c.elim
 .rename_i cs off g;rw[g]at f;have s:=f.je;cases j:a.eval x<;>rw[j]at s<;>cases s;rename_i b base vs B F;obtain⟨aq,c⟩:=c;obtain⟨v,C,dn⟩:=agN B F (aCM aq) k u h1;refine p.value l r (v:=v) ?_ (.cz (.d _ _ dn)) c;grind[execOp,Sem.run_bind,Result.andThen_ok,Sem.run_pure]
 .exact c.elim
def aEl:=@Array.getElem?_modify
def aDs:=@Nat.not_lt_zero
def aFl:=@Array.getElem?_setIfInBounds
def aDf:=@List.getElem?_set_self
def aDb:=@List.getElem?_set_ne
def aEm:=@List.ext_getElem?
def aEn:=@Go.run_storeCells_cells
def aDc:=@Nat.add_zero
theorem aAN(h:p:=by simpa using h.ob.1):p:=h
theorem aBF(h:p:=by have:=h.ob.at hi;rwa [au]at this):p:=h
theorem zN{b off a:Nat}{u:Value}(h:a≠b):(w.setCell ⟨b,off,none⟩ u).heap[a]?=w.heap[a]?:=by
 simp_all[World.setCell,aEl,aCP]
theorem Jd{b off:Nat}{u:Value}{c:Array Value}{E:TypeId}{fz:Nat×Nat}(h:w.heap[b]?=some (.cells c E fz)):(w.setCell ⟨b,off,none⟩ u).heap[b]?=some (.cells (c.setIfInBounds off u) E fz):=by
 grind[World.setCell]
theorem Je{b off:Nat}{u:Value}:(w.setCell ⟨b,off,none⟩ u).heap.size=w.heap.size:=az7
section
variable {b off:Nat}{u:Value}{L0:Loc}(dh:G b=some (L0,0))
include dh
theorem B7:de w G (w.setCell ⟨b,off,none⟩ u) G:=by
 refine⟨?_,?_,?_⟩;rotate_left 2
 .intro d n h;obtain⟨c,E,j,f,g⟩:=h;by_cases a:d=b
  .subst a;exact⟨_,E,j,Jd f,az8⟩
  .exact⟨c,E,j,(zN a).trans f,g⟩
 .intro d k v h;have a:d≠b:=by rintro rfl;exact absurd (h.2.1 _ _ dh) (aDs _)
  exact⟨by rw[zM (zN a)];exact h.1,h.2⟩
 .intro d o h;obtain⟨h1,g,f⟩:=h;have a:d≠b:=az9;exact⟨h1,g,(zN a).trans f⟩
theorem E5{L:Loc}(c:L≠L0):e5 L L w G (w.setCell ⟨b,off,none⟩ u) G:=by
 intro a n h;have d:a≠b:=az9;grind[zN]
theorem PB(bB:L0≠.foreign)(a:∀b L n,G b=some (L,n)->b<w.heap.size):Good w G (w.setCell ⟨b,off,none⟩ u) G where
 size:=az7
 iN c _ h:=by
  have d:c≠b:=az9;grind[zN]
 new b n au dh:=absurd (a _ _ _ dh) (aDT.2 au)
 old _ _ _ h:=h
 keep:=B7 dh
 os:=rfl
 out:=rfl
end
theorem dC.write{b off:Nat}{u:Value}{x:ah}{L:Loc}{LC:Nat->Loc}{cs:List ah}(h:dC w G ρ b L LC cs)(l:dp w G ρ (LC off) u x)(k:∀j,LC j≠L):
  dC (w.setCell ⟨b,off,none⟩ u) G ρ b L LC (cs.set off x):=by
 obtain⟨c,E,o,h1,r,f,p,n⟩:=h;refine⟨c.setIfInBounds off u,E,o,Jd h1,az8,f,az8,?_⟩;intro j v y a d;by_cases g:j=off
 .subst g;have m:j<cs.length:=az9;rw[aFl]at a;simp only[if_true,show j<c.size by omega]at a;simp at a;rw[aDf m]at d;simp at d;subst a;subst d;exact l.b0 (B7 f) (λ_ _ h=>h) (E5 f (k _))
 .rw[Array.getElem?_setIfInBounds_ne (aCP g)]at a;rw[aDb (aCP g)]at d;exact(n j v y a d).b0 (B7 f) (λ_ _ h=>h) (E5 f (k _))
theorem b2.Jf{tmps:Array Value}{t b off:Nat}{u:Value}{x:ah}{cs:List ah}(h:b2 gl w G ρ lam tmps st)(au:st.bM t=some cs)(k:lam t=some b)(z:dp w G ρ (.sq t off) u x):
  b2 gl (w.setCell ⟨b,off,none⟩ u) G ρ lam tmps (st.eg t (cs.set off x))/\Good w G (w.setCell ⟨b,off,none⟩ u) G:=by
 obtain⟨B,g,v⟩:=h.bM t cs au;rw[k]at g;simp at g;subst g;have dh:G b=some (.sr t,0):=by obtain⟨_,_,_,_,_,A,_⟩:=v;omega
 have d:=B7 (w:=w) (off:=off) (u:=u) dh;have c:∀L,L≠.sr t->e5 L L w G (w.setCell ⟨b,off,none⟩ u) G:=λL p=>E5 dh p;refine⟨⟨λs=>(h.aR s).b0 d (λ_ _ h=>h) (λ_ _ h=>h) (c _ az7),?_,?_,h.ob.b0 d (λ_=>c _ az7) (λ_ _=>c _ az7),h.eU.b0 d,λb L n l=>by rw[Je];exact h.lt _ _ _ l⟩,
  PB dh az7 h.lt⟩
 .intro s r a;simp[ag.eg,dm]at a;by_cases f:s=t
  .subst f;grind[dC.write]
  .simp[f,aCW]at a;obtain⟨m,h1,o⟩:=h.bM s r a;exact⟨m,h1,dC.b0 d (λ_ _ h=>h) (c _ az8) (λj=>c _ az7) o⟩
 .intro s a;simp[ag.eg,dm]at a;by_cases f:s=t
  .simp_all
  .grind[nb]
theorem agP(st:ag)(t:Nat)(a b:List ah):(st.eg t a).eg t b=st.eg t b:=by
 unfold ag.eg;congr 1;grind[dm]
theorem agQ{st:ag}{t:Nat}{cs:List ah}(h:st.bM t=some cs):st.eg t cs=st:=by
 unfold ag.eg;cases st with
 |mk aR bM s=>
  congr 1
  grind[dm]
theorem b2.Jg{tmps:Array Value}{t b:Nat}:∀{us:List Value} {xs:List ah} {off:Nat} {cs:List ah} {w:World} {st:ag},b2 gl w G ρ lam tmps st->st.bM t=some cs->lam t=some b->cu w G ρ us xs->
  b2 gl (w.setCells b off us) G ρ lam tmps (st.eg t (putCells cs off xs))/\Good w G (w.setCells b off us) G
 |[],xs,off,cs,w,st,h,au,aE,a=>by
  cases a;rw[show putCells cs off []=cs from rfl,agQ au];exact⟨h,Good.refl h.lt⟩
 |u::us,xs,off,cs,w,st,h,au,aE,a=>by
  cases a with
  |cons _ x _ xs ai f=>
   obtain⟨h1,g1⟩:=h.Jf (off:=off) au aE (.cz ai);have d:(st.eg t (cs.set off x)).bM t=some (cs.set off x):=by simp[ag.eg,iO]
   obtain⟨c,g2⟩:=b2.Jg (off:=off+1) h1 d aE (f.keep g1.keep λ_ _ h=>h);rw[agP]at c;exact⟨c,g1.trans g2⟩
theorem b2.Jh{tmps:Array Value}{i b off:Nat}{u:Value}{x:ah}{cs:List ah}(h:b2 gl w G ρ lam tmps st)(au:st.s.getD i .dead=.box cs)(hi:ρ[i]?=some (b+1))(p:dp w G ρ (.dk i off) u x):
  b2 gl (w.setCell ⟨b,off,none⟩ u) G ρ lam tmps {st with s:=st.s.set i (.box (cs.set off x))}/\Good w G (w.setCell ⟨b,off,none⟩ u) G:=by
 have l:=aBF;have dh:G b=some (.obj i,0):=by obtain⟨_,_,_,_,_,A,_⟩:=l;omega
 have d:=B7 (w:=w) (off:=off) (u:=u) dh;have a:∀L,L≠.obj i->e5 L L w G (w.setCell ⟨b,off,none⟩ u) G:=λL t=>E5 dh t;refine⟨⟨λs=>(h.aR s).b0 d (λ_ _ h=>h) (λ_ _ h=>h) (a _ az7),?_,h.nb,⟨aAN,?_⟩,h.eU.b0 d,λb L n m=>by rw[Je];exact h.lt _ _ _ m⟩,
  PB dh az7 h.lt⟩
 .intro s v z;obtain⟨aT,h1,o⟩:=h.bM s v z;exact⟨aT,h1,dC.b0 d (λ_ _ h=>h) (a _ az7) (λj=>a _ az7) o⟩
 .intro j aT ob f c;by_cases g:j=i
  .subst g;rw[hi]at f;simp at f;obtain rfl:b=aT:=az6;have r:j<st.s.length:=az9;simp[aDf r,aCz]at c;subst c;exact l.write p az7
  .simp[aDb (aCP g)]at c;exact(h.ob.2 j aT ob f c).b0 d (λ_ _ h=>h) (a _ az8) (λk=>a _ az7)
theorem agR{s:aY}{i:Nat}{cs a:List ah}(h:s.getD i .dead=.box cs):(s.set i (.box a)).getD i .dead=.box a:=az9
theorem Ji{s:aY}{i:Nat}{cs:List ah}(h:s.getD i .dead=.box cs):s.set i (.box cs)=s:=by
 apply aEm;grind
theorem b2.B8{tmps:Array Value}{i b:Nat}(hi:ρ[i]?=some (b+1)):∀{us:List Value} {xs:List ah} {off:Nat} {cs:List ah} {w:World} {st:ag},b2 gl w G ρ lam tmps st->st.s.getD i .dead=.box cs->cu w G ρ us xs->
  b2 gl (w.setCells b off us) G ρ lam tmps {st with s:=st.s.set i (.box (putCells cs off xs))}/\Good w G (w.setCells b off us) G
 |[],xs,off,cs,w,st,h,au,a=>by
  cases a;rw[show putCells cs off []=cs from rfl,Ji au];exact⟨h,Good.refl h.lt⟩
 |u::us,xs,off,cs,w,st,h,au,a=>by
  cases a with
  |cons _ x _ xs ai f=>
   obtain⟨h1,g1⟩:=h.Jh (off:=off) au hi (.cz ai);have d:({st with s:=st.s.set i (.box (cs.set off x))}:ag).s.getD i .dead=.box (cs.set off x):=agR au;obtain⟨c,g2⟩:=b2.B8 hi (off:=off+1) h1 d (f.keep g1.keep λ_ _ h=>h);simp at c;exact⟨c,g1.trans g2⟩
theorem E6{b off t:Nat}{v:Value}{L:Loc}{LC:Nat->Loc}{cs:List ah}(h:dC w G ρ b L LC cs)(l:off+v.cells.size<=cs.length)(g:df P t=some v.cells.size)(h1:∀u∈v.cells.toList,u.oneCell'=true):
  (Instr.storeAt t (.pointer (some ⟨b,off,none⟩)) v).run P w=.ok () (w.setCells b off v.cells.toList):=by
 obtain⟨c,E,p,a,f,k,n,o⟩:=h;have:=aEn (P:=P) b off v.cells.toList 0 w
  (λj d=>by
   rw[aDc,cell_of_block a];grind)
  (λj d=>by
   rw[aDc,tZ a];have m:off+j<c.size:=az9;simp_all)
  h1
 simp_all[Instr.storeAt,Instr.sureAddr,storeVar,kA]
theorem PD{v:Value}{x:ah}(h:c7 w G ρ v x)(a:tK x=true):v.oneCell'=true:=by
 cases h with
 |d v y h=>cases h<;>first|rfl|grind[tK]
 |undef v=>grind[tK]
 |agg _ _ _=>grind[tK]
 |tuple _ _ _=>grind[tK]
 |f' _ _ _=>grind[tK]
 |_=>rfl
def aDJ:=@List.getElem_of_mem
def aCQ:=@List.all_eq_true
def aCC:=@List.getElem_mem
theorem aAO(h:p:=by grind[execOp,Sem.run_bind,Result.andThen_ok,Sem.run_pure]):p:=h
theorem aBh(h:p:=by rw[cj];exact aCM ka):p:=h
theorem aBi(h:p:=by rw[bb];exact dn):p:=h
theorem aBG(h:p:=by have:=p.rel.ob.at au;rwa [aC]at this):p:=h
theorem E7{t:Nat}{x:Operand}{y:O}(p:b6 n0 gl nt w G ρ lam a st)(H:bW P t x=some y)(K:(cellsOf (aO gl st y)).all kT=true):
  (kill st y=st/\cu w G ρ (a.eval x).cells.toList (cellsOf (aO gl st y))/\∀u∈(a.eval x).cells.toList,u.oneCell'=true)\/
  (∃s z,y=.t s/\st.aR s=z/\kill st y=st.set s .undef/\cellsOf (aO gl st y)=[z]/\(a.eval x).cells.toList=[a.eval x]/\(a.eval x).oneCell'=true/\dp w G ρ (.slot s) (a.eval x) z):=by
 have plain:∀{z:ah},c7 w G ρ (a.eval x) z->(cellsOf z).all kT=true->cu w G ρ (a.eval x).cells.toList (cellsOf z)/\∀u∈(a.eval x).cells.toList,u.oneCell'=true:=by
  intro z d N;have r:(cellsOf z).all (eo depth)=true:=by
   simp_all[kT]
  have v:=d.cells r;refine⟨v,?_⟩;intro u R;obtain⟨j,F,rfl⟩:=aDJ R;have A:j<(cellsOf z).length:=aAF;have C:=v.get (aCB F) (aCB A);have:=(aCQ.1 N) _ (aCC A);simp[kT,aCx]at this;exact PD C this.1
 rcases I4 H p.rel with⟨s,rfl,rfl⟩|⟨r,hA⟩
 .rcases xq st (.t s)with⟨hk,V⟩|⟨s',Q,hk,z,d,m⟩
  .refine .inl ⟨hk,?_⟩;have f:=p.rel.aR s;rcases f.cases with o|⟨ev,off,b,e,_,_⟩
   .rcases o.cases with hA|⟨sz,l,e,L⟩|⟨sz,n,us,e,L⟩
    .exact plain hA K
    .have:=V s rfl;rw[e]at this;cases l<;>simp[iL,se]at this
    grind[se]
   grind[aO,cellsOf,kT,tK]
  .cases Q;right;have f:=p.rel.aR s;rw[m]at f;have o:dp w G ρ (.slot s) (a.tmps.getD s undef) z:=by cases z<;>simp[se]at d<;>exact f
   have U:∃g n c,a.tmps.getD s undef=.slice g n c:=by
    rcases o.cases with hA|⟨S,Z,e,hO⟩|⟨S,n',Y,e,hO⟩
    .cases z<;>simp[se]at d<;>cases k:a.tmps.getD s undef<;>rw[k]at hA<;>cases hA;simp
    .rcases hO with⟨b,off,J,c,E,M,X,h1,_⟩|⟨_,_,h1⟩<;>exact⟨_,_,_,h1⟩
    .obtain⟨b,J,c,E,M,X,h1,_⟩:=hO;simp_all
   obtain⟨g,n,c,k⟩:=U;have B:a.eval (.tmp s)=.slice g n c:=k;refine⟨s,z,rfl,m,hk,?_,?_,?_,?_⟩
   .show cellsOf (st.aR s)=_;rw[m];cases z<;>simp[se]at d<;>rfl
   .rw[B];rfl
   .rw[B];rfl
   simp_all
 grind[xq]
theorem b2.E8{tmps:Array Value}{s:Nat}{L:Loc}(h:b2 gl w G ρ lam tmps st):
  b2 gl w (da (fe (.slot s) L) G) ρ lam tmps (st.set s .undef):=by
 have d:de w G w (da (fe (.slot s) L) G):=kz _;have a:∀c,c≠.slot s->e5 c c w G w (da (fe (.slot s) L) G):=λc k=>sv (q5 k);refine⟨?_,?_,h.nb,?_,h.eU.b0 d,sw h.lt⟩
 .intro t;simp only[ag.set,dm];by_cases f:t=s
  .simp[f,if_true];exact .cz (.undef _)
  .simp only[f,aCW];exact(h.aR t).b0 d (λ_ _ h=>h) (λ_ _ h=>h) (a _ az9)
 .intro t l au;obtain⟨b,h1,g⟩:=h.bM t l au;exact⟨b,h1,dC.b0 d (λ_ _ h=>h) (a _ az7) (λj=>a _ az7) g⟩
 .exact h.ob.b0 d (λi=>a _ az7) (λi j=>a _ az7)
theorem agS{b off:Nat}{u:Value}:w.setCells b off [u]=w.setCell ⟨b,off,none⟩ u:=rfl
theorem agT{t tb off n t1 t2:Nat}{x y:Operand}{B F:O}(p:b6 n0 gl nt w G ρ lam a st)(bb:o.dst=none)(bE:o.op=.store t x y)(M:bW P t1 x=some B)(J:bW P t2 y=some F)
  (aM:df P t=some n) (c:step (bA P gl) gl (.ls B tb off F n) st K):o.wp P a w (cP n0 gl nt w G ρ K) Q:=by
 obtain⟨fC,u⟩:=dY M p.rel;simp[step]at c;split at c
 .rename_i f d cs N j;obtain⟨A,c⟩:=c;simp only[aCx]at A;obtain⟨⟨⟨⟨H,R⟩,E⟩,ka⟩,U⟩:=A;obtain rfl:f=tb:=aCG H;obtain rfl:d=off:=aCG R;have E:=aCG E;rw[N]at u;obtain⟨b,au,hv⟩:=u;obtain⟨k,m,C⟩:=p.rel.bM f cs j;rw[m]at au;simp at au;have r:(Instr.storeAt t (.pointer (some ⟨k,d,none⟩)) (a.eval y)).run P w=.ok () (w.setCells k d (a.eval y).cells.toList)->(execOp a.eval o).run P w=.ok .skip (w.setCells k d (a.eval y).cells.toList):=aAO;rcases E7 p J U with⟨hk,S,h1⟩|⟨s,z,rfl,fK,hk,V,X,h1,Y⟩
  .have cj:(a.eval y).cells.size=n:=by grind[Array.length_toList,cu.length]
   have g:=E6 (P:=P) (t:=t) (v:=a.eval y) C aBh az8 h1;obtain⟨dn,l⟩:=b2.Jg p.rel j m S;rw[hk]at c;exact vH (r g) (lx p.eT (put_defers _ _ _) aAe G ρ lam _ aBi l (λ_ _ h=>h) c)
  .have cj:(a.eval y).cells.size=n:=by grind[Array.length_toList]
   have g:=E6 (P:=P) (t:=t) (v:=a.eval y) C aBh az8 az8;have Z:=p.rel.E8 (s:=s) (L:=.sq f d);have xC:=by
    have:=o1 (w:=w) (G:=G) (fe (.slot s) (.sq f d)) (.slot s);rw[tS]at this;exact Y.b0 (kz _) (λ_ _ h=>h) this
   obtain⟨dn,l⟩:=b2.Jf (off:=d) Z (show(st.set s .undef).bM f=some cs from j) m xC;rw[hk,V]at c;rw[X]at g r;exact vH (r g) (lx p.eT (put_defers _ _ _) aAe _ ρ lam _ aBi ((q6 p.rel.lt az7 az7).trans l) (λ_ _ h=>h) c)
 .exact c.elim
theorem agU{t n U V:Nat}{x y:Operand}{l A:O}(p:b6 n0 gl nt w G ρ lam a st)(bb:o.dst=none)(Z:o.op=.store t x y)(C:bW P U x=some l)(B:bW P V y=some A)
  (Y:df P t=some n) (c:step (bA P gl) gl (.hs l A n) st K):o.wp P a w (cP n0 gl nt w G ρ K) Q:=by
 obtain⟨fC,j⟩:=dY C p.rel;simp only[step]at c;split at c
 .rename_i i off E;rw[E]at j;have r:=j;cases H:a.eval x<;>rw[H]at r<;>cases r;rename_i b au;split at c
  .rename_i cs aC;obtain⟨k,c⟩:=c;simp only[aCx]at k;obtain⟨⟨u,ka⟩,J⟩:=k;have u:=aCG u;have m:=aBG;have f:(Instr.storeAt t (.pointer (some ⟨b,off,none⟩)) (a.eval y)).run P w=.ok () (w.setCells b off (a.eval y).cells.toList)->(execOp a.eval o).run P w=.ok .skip (w.setCells b off (a.eval y).cells.toList):=aAO;rcases E7 p B J with⟨hk,F,h1⟩|⟨s,z,rfl,fK,hk,M,N,h1,R⟩
   .have cj:(a.eval y).cells.size=n:=by grind[Array.length_toList,cu.length]
    have d:=E6 (P:=P) (t:=t) (v:=a.eval y) m aBh az8 h1;obtain⟨dn,g⟩:=b2.B8 au p.rel aC F;rw[hk]at c;exact vH (f d) (lx p.eT (put_defers _ _ _) aAe G ρ lam _ aBi g (λ_ _ h=>h) c)
   .have cj:(a.eval y).cells.size=n:=by grind[Array.length_toList]
    have d:=E6 (P:=P) (t:=t) (v:=a.eval y) m aBh az8 az8;have S:=p.rel.E8 (s:=s) (L:=.dk i off);have X:dp w (da (fe (.slot s) (.dk i off)) G) ρ (.dk i off) (a.eval y) z:=by
     have:=o1 (w:=w) (G:=G) (fe (.slot s) (.dk i off)) (.slot s);rw[tS]at this;exact R.b0 (kz _) (λ_ _ h=>h) this
    obtain⟨dn,g⟩:=b2.Jh (off:=off) S (show(st.set s .undef).s.getD i .dead=.box cs from aC) au X;rw[hk,M]at c;rw[N]at d f;rw[agS]at d f;exact vH (f d) (lx p.eT (put_defers _ _ _) aAe _ ρ lam _ aBi ((q6 p.rel.lt az7 az7).trans g) (λ_ _ h=>h) c)
  .exact c.elim
 .exact c.elim
theorem dC.PE{b off:Nat}{cs:List ah}{L:Loc}{LC:Nat->Loc}{d:Nat}(h:dC w G ρ b L LC cs)(k:L≠LC off)(u:∀j,j≠off->LC j≠LC off)(t:off<cs.length):
  dC w (da (fe (LC off) (.slot d)) G) ρ b L LC (cs.set off .undef)/\∃v,w.cell? ⟨b,off,none⟩=some v/\dp w (da (fe (LC off) (.slot d)) G) ρ (.slot d) v (cs.getD off .undef):=by
 have n:de w G w (da (fe (LC off) (.slot d)) G):=kz _;have m:∀f,f≠LC off->e5 f f w G w (da (fe (LC off) (.slot d)) G):=λf k=>sv (q5 k);obtain⟨c,E,z,h1,p,s,B,l⟩:=h;refine⟨⟨c,E,z,h1,p,(m L k _ _ s).2,az8,?_⟩,?_⟩
 .intro j v y A a;by_cases g:j=off
  .subst g;rw[aDf t]at a;simp at a;subst a;exact .cz (.undef _)
  .rw[aDb (aCP g)]at a;exact(l j v y A a).b0 n (λ_ _ h=>h) (m _ (u j g))
 .have C:=by omega
  refine⟨c[off],by rw[cell_of_block h1];simp,?_⟩;have r:cs[off]?=some (cs.getD off .undef):=az8;have o:=o1 (w:=w) (G:=G) (fe (LC off) (.slot d)) (LC off);rw[tS]at o;exact(l off c[off] _ az7 r).b0 n (λ_ _ h=>h) o
theorem PF{b off t:Nat}{v:Value}(a:w.cell? ⟨b,off,none⟩=some v)(c:kW P t=some false):(Instr.loadAt t (.pointer (some ⟨b,off,none⟩))).run P w=.ok v w:=by
 simp_all[Instr.loadAt,Instr.sureAddr,loadVar,xr]
theorem agV{d t tb off Y:Nat}{x:Operand}{z:O}(p:b6 n0 gl nt w G ρ lam a st)(L:o.dst=some d)(N:d<nt)(bE:o.op=.load t x)(F:bW P Y x=some z)
  (dx:kW P t=some false) (j:step (bA P gl) gl (.lt d z tb off) st K):o.wp P a w (cP n0 gl nt w G ρ K) Q:=by
 obtain⟨fC,r⟩:=dY F p.rel;simp[step]at j;split at j
 .rename_i c f cs H A;obtain⟨u,j⟩:=j;simp only[aCx]at u;obtain⟨⟨B,M⟩,aq⟩:=u;obtain rfl:c=tb:=aCG B;obtain rfl:f=off:=aCG M;have J:f<cs.length:=az8;rw[H]at r;obtain⟨b,au,hv⟩:=r;obtain⟨cr,S,V⟩:=p.rel.bM c cs A;rw[S]at au;simp at au;obtain⟨Z,v,az,X⟩:=V.PE (d:=d) (off:=f) az7 az7 J;have m:de w G w (da (fe (.sq c f) (.slot d)) G):=kz _;have k:∀l,l≠.sq c f->e5 l l w G w (da (fe (.sq c f) (.slot d)) G):=λl R=>sv (q5 R);have dn:b2 gl w (da (fe (.sq c f) (.slot d)) G) ρ lam a.tmps (st.eg c (cs.set f .undef)):=by
   refine⟨λs=>(p.rel.aR s).b0 m (λ_ _ h=>h) (λ_ _ h=>h) (k _ az7),?_,?_,p.rel.ob.b0 m (λ_=>k _ az7) (λ_ _=>k _ az7),p.rel.eU.b0 m,sw p.rel.lt⟩
   .intro s U g;simp[ag.eg,dm]at g;by_cases n:s=c
    .simp_all
    .simp[n,aCW]at g;obtain⟨C,h1,E⟩:=p.rel.bM s U g;exact⟨C,h1,dC.b0 m (λ_ _ h=>h) (k _ az7) (λad=>k _ az8) E⟩
   .intro s g;simp[ag.eg,dm]at g;by_cases n:s=c
    .simp_all
    .simp[n,aCW]at g;exact p.rel.nb s g
  refine gg (v:=v) ?_ (oi dn p.eT p.sz N (q6 p.rel.lt az7 az7) (λ_ _ h=>h) L (.mj X) j);simp_all[execOp,PF]
 .exact j.elim
theorem agW{d t X:Nat}{x:Operand}{r:O}(p:b6 n0 gl nt w G ρ lam a st)(J:o.dst=some d)(L:d<nt)(bE:o.op=.load t x)(E:bW P X x=some r)
  (dx:kW P t=some false) (c:step (bA P gl) gl (.aK d r) st K):o.wp P a w (cP n0 gl nt w G ρ K) Q:=by
 obtain⟨fC,n⟩:=dY E p.rel;simp only[step]at c;split at c
 .rename_i i off F;rw[F]at n;have z:=n;cases N:a.eval x<;>rw[N]at z<;>cases z;rename_i b au;split at c
  .rename_i cs aC;obtain⟨Y,c⟩:=c;have H:off<cs.length:=az8;have S:=aBG;obtain⟨A,v,Z,V⟩:=S.PE (d:=d) (off:=off) az7 az7 H;have l:de w G w (da (fe (.dk i off) (.slot d)) G):=kz _;have f:∀g,g≠.dk i off->e5 g g w G w (da (fe (.dk i off) (.slot d)) G):=λg M=>sv (q5 M);have dn:b2 gl w (da (fe (.dk i off) (.slot d)) G) ρ lam a.tmps {st with s:=st.s.set i (.box (cs.set off .undef))}:=by
    refine⟨λs=>(p.rel.aR s).b0 l (λ_ _ h=>h) (λ_ _ h=>h) (f _ az7),?_,p.rel.nb,⟨by simpa using p.rel.ob.1,?_⟩,p.rel.eU.b0 l,sw p.rel.lt⟩
    .intro s R U;obtain⟨aT,h1,B⟩:=p.rel.bM s R U;exact⟨aT,h1,dC.b0 l (λ_ _ h=>h) (f _ az7) (λj=>f _ az7) B⟩
    .intro j aT ob m k;by_cases u:j=i
     .subst u;rw[au]at m;simp at m;obtain rfl:b=aT:=az6;have C:j<st.s.length:=az9;simp[aDf C,aCz]at k;subst k;exact A
     .simp[aDb (aCP u)]at k;exact(p.rel.ob.2 j aT ob m k).b0 l (λ_ _ h=>h) (f _ az7) (λad=>f _ az8)
   refine gg (v:=v) ?_ (oi dn p.eT p.sz L (q6 p.rel.lt az7 az7) (λ_ _ h=>h) J (.mj V) c);simp_all[execOp,PF]
  .exact c.elim
 .exact c.elim
def aF2:=@List.foldl_cons
def aDE:=@List.length_set
def aC0:=@cond_true
theorem agY{d t f n t1:Nat}{aw:Bool}{x:Operand}{j:O}{H:Array Field}{c:Field}(p:b6 n0 gl nt w G ρ lam a st)(B:o.dst=some d)(E:d<nt)(A:o.op=.field t x f)(U:bW P t1 x=some j)
  (J:P.underlying t=some (.struct H)) (C:H[f]?=some c) (R:df P c.type=some n) (F:kW P c.type=some aw) (Z:aw=false->n=1)
  (r:step (bA P gl) gl (.fd d j c.offset n aw) st K):o.wp P a w (cP n0 gl nt w G ρ K) Q:=by
 obtain⟨fC,h1⟩:=dY U p.rel;obtain⟨m,r⟩:=r;simp only[aCx]at m;obtain⟨u,z⟩:=m;have z:=aCM z;have M:∃g,a.eval x=.agg ⟨g⟩/\cu w G ρ g (cellsOf (aO gl st j)):=by
  cases he:aO gl st j<;>rw[he]at h1 u<;>simp[xh]at u;case agg cs=>
   have l:=h1;cases k:a.eval x<;>rw[k]at l<;>cases l;rename_i g h;exact⟨g,rfl,h⟩
  case d y=>
   cases y<;>simp at u;have l:=h1.je;cases k:a.eval x<;>rw[k]at l<;>cases l;rename_i g h;exact⟨g,rfl,h.ER⟩
 obtain⟨g,k,s⟩:=M;have aE:=s.length;cases aw with
 |true=>
  refine p.value B E (v:=.agg ((⟨g⟩:Array Value).extract c.offset (c.offset+n))) ?_ (.cz (x:=valOf (cellsOf (aO gl st j)) c.offset n true) ?_) r
  .simp[execOp,A,k,Instr.field,aCD,eN J,aCH,C,asAgg,aCK,part,xr F,if_true,kA R]
  .have:(⟨g⟩:Array Value).extract c.offset (c.offset+n)=⟨(g.drop c.offset).take n⟩:=by
    simp
   rw[this];exact ES (LC:=λ_=>.res) az9 λad v y V S=>.cz (((s.drop _).take _).get V S)
 |false=>
  obtain rfl:=Z rfl;have X:c.offset<g.length:=az6;have m:(⟨g⟩:Array Value)[c.offset]?=some g[c.offset]:=az7;refine p.value B E (v:=g[c.offset]) ?_ (.cz (x:=valOf (cellsOf (aO gl st j)) c.offset 1 false) ?_) r
  .simp only[execOp,A,k,Instr.field,aCD,eN J,aCH,C,asAgg,aCK,part,xr F,aDq,aCW,m]
  .have Y:(cellsOf (aO gl st j))[c.offset]?=some ((cellsOf (aO gl st j)).getD c.offset .undef):=by grind
   have N:=s.get (aCB X) Y;exact(dp.cz (L:=.res) N).snap
theorem agZ:∀{us:List Value} {xs:List ah} {off:Nat} {vs:List Value} {cs:List ah},cu w G ρ us xs->cu w G ρ vs cs->
  ∃d,cu w G ρ d (putCells cs off xs)/\d=(us.zipIdx.foldl (λ(c:Array Value) (p:Value×Nat)=>c.setIfInBounds (off+p.2) p.1) ⟨vs⟩).toList:=by
 intro us;suffices h:∀(us:List Value) (k:Nat) (xs:List ah) (off:Nat) (vs:List Value) (cs:List ah),cu w G ρ us xs->cu w G ρ vs cs->
   cu w G ρ (((us.zipIdx k).foldl (λ(c:Array Value) (p:Value×Nat)=>c.setIfInBounds (off+p.2) p.1) ⟨vs⟩).toList) (putCells cs (off+k) xs)from
  λ{xs off vs cs} h1 a=>⟨_,by simpa using h us 0 xs off vs cs h1 a,rfl⟩
 intro us;induction us with
 |nil=>intro k xs off vs cs h1 a;cases h1;simp_all[putCells]
 |cons u us ih=>
  intro k xs off vs cs h1 a;cases h1 with
  |cons _ x _ xs ai g=>
   simp[List.zipIdx_cons,aF2,putCells];have f:cu w G ρ (vs.set (off+k) u) (cs.set (off+k) x):=by
    refine .mk (by simp[a.length]) λj v y o m=> ?_;by_cases l:j=off+k
    .grind
    .grind[cu.get]
   have n:=ih (k+1) xs off (vs.set (off+k) u) (cs.set (off+k) x) g f;grind
theorem ag0:∀{xs:List ah} {off:Nat} {cs:List ah},(putCells cs off xs).length=cs.length
 |[],_,_=>rfl
 |x::xs,off,cs=>by simp[putCells,ag0,aDE]
theorem PH{s:Nat->Option (Nat×Nat)}(p:b6 n0 gl nt w G ρ lam a st):∀{ps:List (Nat×Operand)} {l:List (Nat×Nat×O)} {cs f:List ah} {vs:List Value},
  hW (λ(q:Nat×Operand) (r:Nat×Nat×O)=>s q.1=some (r.1,r.2.1)/\∃t,bW P t q.2=some r.2.2) ps l->cu w G ρ vs cs->pM gl st cs l=some f->
  ∃g,Instr.fill s ⟨vs⟩ (ps.map λq=>(q.1,a.eval q.2))=some ⟨g⟩/\cu w G ρ g f
 |[],_,cs,f,vs,h,d,c=>by
  cases h;simp[pM,aCz]at c;subst c;exact⟨vs,rfl,d⟩
 |(i,x)::ps,_,cs,f,vs,h,d,c=>by
  cases h with
  |cons aS h=>
   rename_i r l;obtain⟨off,n,k⟩:=r;obtain⟨F,t,v⟩:=aS;simp[pM]at c;cases j:(Nat.beq (cellsOf (cX (snap (aO gl st k)))).length n&&Nat.ble (off+n) cs.length&&(cellsOf (cX (snap (aO gl st k)))).all (eo depth))with
   |false=>simp_all
   |true=>
    simp[j,aC0]at c;simp only[aCx]at j;obtain⟨⟨o,m⟩,H⟩:=j;have o:=aCG o;have m:=aCM m;have C:=(zH (L:=.res) v p.rel).cX (L':=.res);have E:c7 w G ρ (a.eval x) (cX (snap (aO gl st k))):=by
     rcases C.cases with h|⟨M,R,b,e,_,_⟩
     all_goals grind[IY,IZ,cellsOf,eo,dp.cases]
    have B:=E.cells H;obtain⟨N,J,z⟩:=agZ (off:=off) B d;obtain⟨g,u,A⟩:=PH p h J c;refine⟨g,?_,A⟩;simp only[aDe,Instr.fill,F];have K:(a.eval x).cells.size=n:=by grind[Array.length_toList,cu.length]
    have Q:=d.length;have S:((a.eval x).cells.size≠n||off+(a.eval x).cells.size>(⟨vs⟩:Array Value).size)=false:=az8;rw[aCV az8];rw[<-u,z,<-Array.foldl_toList];simp
def aDU:=@List.getElem?_toArray
theorem aAw(h:p:=by rw[cg];rfl):p:=h
theorem aA8(h:p:=by rw[cg];exact heq _):p:=h
theorem aBj(h:p:=by simp[Op.equalIn,eN hu]):p:=h
theorem sF{c d:Type}{f:c->Option d}:∀{l:List c} {a:List d},l.mapM f=some a->hW (λx y=>f x=some y) l a
 |[],a,h=>by simp at h;subst h;exact .nil
 |x::l,a,h=>by
  cases ai:f x with
  |none=>simp[ai]at h
  |some y=>
   cases aE:l.mapM f with
   |none=>simp[ai,aE]at h
   |some ys=>
    simp[ai,aE]at h;subst h;exact .cons ai (sF aE)
theorem mapM_some{c d:Type}{f:c->Option d}:∀{l:List c},(∀x,x∈l->∃y,f x=some y)->∃a,l.mapM f=some a
 |[],_=>⟨[],rfl⟩
 |x::l,h=>by
  obtain⟨y,k⟩:=h x az7;obtain⟨a,g⟩:=mapM_some (l:=l) λz j=>h z az9;simp_all
theorem Jk{c d:Type}{f:c->Option d}:∀{l:List c} {a:List d} {i:Nat} {x:c},l.mapM f=some a->l[i]?=some x->∃y,a[i]?=some y/\f x=some y
 |[],_,_,_,_,h=>az9
 |z::l,a,i,x,h,hi=>by
  cases ai:f z with
  |none=>simp_all
  |some y=>
   cases aE:l.mapM f with
   |none=>simp_all
   |some ys=>
    simp[ai,aE]at h;subst h;cases i with
    |zero=>simp_all
    |succ i=>
     obtain⟨j,h1,g⟩:=Jk aE hi;simp_all
theorem hW.imp{c d:Type}{R S:c->d->Prop}(hi:∀x y,R x y->S x y):∀{l:List c} {a:List d},hW R l a->hW S l a
 |_,_,.nil=>.nil
 |_,_,.cons h t=>.cons (hi _ _ h) (t.imp hi)
theorem info_of_underlying{t:Nat}{d:TypeDesc}(h:P.underlying t=some d):∃i,P.info? t=some i:=by
 grind[Program.underlying]
theorem PI{n t:Nat}{z:List ah}(h:oY P n t=some z):∃i,P.info? t=some i:=by
 cases n with
 |zero=>grind[oY]
 |succ n=>
  grind[oY,info_of_underlying]
theorem ag1{t:Nat}{z:List ah}(h:zeros P t=some z):oY P 20 t=some z:=by
 unfold zeros at h;cases h1:oY P 20 t with
 |none=>simp_all
 |some cs=>
  cases a:P.info? t with
  |none=>simp_all
  |some i=>
   cases c:i.zero with
   |none=>simp_all
   |some v=>
    simp_all
theorem ag2{t:Nat}{z:List ah}{i:TypeInfo}{v:Value}(p:zeros P t=some z)(hi:P.info? t=some i)(G:i.zero=some v){ps:List (Nat×Value)}{cs:Array Value}
  (g:Instr.fill (partOf P t) v.cells ps=some cs) (u:∃d,P.underlying t=some d/\d.isRow=true):P.built t ps=some cs:=by
 obtain⟨d,F,E⟩:=u;have a:=ag1 p;cases d with
 |struct fs=>
  have w:∃places,fs.toList.mapM (λf=>(P.info? f.type).map λi=>(f.offset,i.size))=some places:=by
   unfold oY at a;cases hm:fs.toList.mapM λf=>oY P 19 f.type with
   |none=>simp_all
   |some l=>
    refine mapM_some λf g=> ?_;obtain⟨j,o⟩:=List.getElem?_of_mem g;obtain⟨y,_,r⟩:=Jk hm o;obtain⟨ii,B⟩:=PI r;simp_all
  obtain⟨places,hp⟩:=w;unfold Program.built;have A:(λx=>places.toArray[x]?)=partOf P t:=by
   funext k;unfold partOf;cases hk:fs[k]? with
   |none=>
    have:places.length=fs.toList.length:=by
     have:=sF hp;clear hp;generalize fs.toList=l at this;induction this with
     |nil=>rfl
     |cons _ _ ih=>grind
    simp_all
   |some f=>
    have s:fs.toList[k]?=some f:=az8;obtain⟨y,h1,C⟩:=Jk hp s;simp[aDU,h1,df];cases B:P.info? f.type with
    |none=>simp_all
    |some ii=>simp_all
  simp_all
 |array n e=>
  have m:=by
   unfold oY at a;simp at a;cases hm:oY P 19 e with
   |none=>simp_all
   |some l=>exact PI hm
  obtain⟨c,m⟩:=m;unfold Program.built;simp;have A:(λx=>some (x*c.size,c.size))=partOf P t:=by
   grind[partOf,df]
  simp_all
 |_=>simp_all
theorem ag4{d t:Nat}{z:List ah}{ps:Array (Nat×Operand)}{f:List (Nat×Nat×O)}(p:b6 n0 gl nt w G ρ lam a st)(m:o.dst=some d)(s:d<nt)(E:o.op=.build t ps)(k:zeros P t=some z)
  (F:∃d,P.underlying t=some d/\d.isRow=true)
  (aS:hW (λ(q:Nat×Operand) (r:Nat×Nat×O)=>partOf P t q.1=some (r.1,r.2.1)/\∃t,bW P t q.2=some r.2.2) ps.toList f)
  (c:step (bA P gl) gl (.od d z f) st K):o.wp P a w (cP n0 gl nt w G ρ K) Q:=by
 obtain⟨i,v,h1,A,C,u,l⟩:=om k;simp[step]at c;split at c
 .rename_i cs n;obtain⟨g,B,j⟩:=PH p aS l n;have au:P.built t (ps.map λq=>(q.1,a.eval q.2)).toList=some ⟨g⟩:=by
   simp_all[ag2]
  refine p.value m s (v:=.agg ⟨g⟩) ?_ (.cz (.agg _ _ j)) c;grind[execOp,Sem.run_bind,run_build,Result.andThen_ok,Sem.run_pure]
 .exact c.elim
theorem E9{xs:List Operand}{ys:List O}(p:b6 n0 gl nt w G ρ lam a st)(h:hW (λx y=>∃t,bW P t x=some y) xs ys)(d:(ys.map λx=>cX (snap (aO gl st x))).all (eo depth)=true):
  cu w G ρ (xs.map a.eval) (ys.map λx=>cX (snap (aO gl st x))):=by
 induction h with
 |nil=>exact .nil
 |@cons x y xs ys c _ ih=>
  obtain⟨t,c⟩:=c;simp only[aDe,aEI,aCx]at d⊢;refine .cons _ _ _ _ ?_ (ih d.2);have f:=(zH (L:=.res) c p.rel).cX (L':=.res);rcases f.cases with h|⟨g,j,b,e,_,_⟩
  all_goals grind[IY,IZ,eo,dp.cases]
theorem ag5{d f:Nat}{xs cs:Array Operand}{ys zs:List O}(p:b6 n0 gl nt w G ρ lam a st)(r:o.dst=some d)(s:d<nt)(z:o.op=.makeFunc (.func f) xs cs)
  (l:hW (λx y=>∃t,bW P t x=some y) xs.toList ys) (n:hW (λx y=>∃t,bW P t x=some y) cs.toList zs)
  (c:step (bA P gl) gl (.xf d f ys zs) st K):o.wp P a w (cP n0 gl nt w G ρ K) Q:=by
 have g:(execOp a.eval o).run P w=.ok (.value (.func (.func f) (xs.map a.eval) (cs.map a.eval))) w:=by
  simp_all[execOp,Instr.makeFunc]
 simp only[step]at c;split at c
 .have m:xs= #[]:=by cases aE:xs.toList with|nil=>simp_all|cons q v=>rw[aE]at l;cases l
  have j:cs= #[]:=by cases aE:cs.toList with|nil=>simp_all|cons q v=>rw[aE]at n;cases n
  rw[m,j,Array.map_empty]at g;exact p.value r s g (.cz (.d _ _ (.fn f))) c
 .obtain⟨k,c⟩:=c;simp only[aCx]at k;refine p.value r s g (.cz ?_) c;have h1:=E9 p l k.1;have u:=E9 p n k.2;have m:xs.map a.eval=⟨xs.toList.map a.eval⟩:=az9;have j:cs.map a.eval=⟨cs.toList.map a.eval⟩:=az9;rw[m,j];exact .func _ _ _ _ _ h1 u
theorem dq.xi{v:Value}{x:ah}{sz:Nat}{l:List D}{L:Loc}(h:dq w G ρ lam L v x)(a:xi x=some (sz,l)):∃c n cap,v=.slice c n cap/\(l≠[]->c≠none):=by
 unfold aG.xi at a;split at a
 .rename_i i off len cap sz;have d:=h;cases d;simp
 all_goals first
  |(simp at a;done)
  |(obtain⟨rfl,rfl⟩:=a
    obtain⟨c,cap,g,_,f⟩:=(h.hJ rfl).slice;grind)
theorem ag6{d:Nat}{x z:Operand}{V:O}{t u t1 Z:Nat}{neg:Bool}{Y:TypeDesc}(p:b6 n0 gl nt w G ρ lam a st)(U:o.dst=some d)(X:d<nt)
  (M:o.op=.binOp (if neg then .neq else .eql) t x z u) (ai:bW P t1 x=some V) (hu:P.underlying t=some Y) (s:zx Y z=some Z)
  (l:step (bA P gl) gl (.mS d neg Z V) st K):o.wp P a w (cP n0 gl nt w G ρ K) Q:=by
 obtain⟨fC,h1⟩:=dY ai p.rel;have A:∀(b:Bool) (m:Value),a.eval z=m->(m=.slice none 0 0\/m=.map none\/m=.nilFunc\/m=.pointer none)->(Op.equal t (a.eval x) m).run P w=.ok b w->(a.eval x).oneCell'=true->a.eval x≠.nilIface->(∀k n,a.eval x≠.int k n)->(∀ad,a.eval x≠.string ad)->
   K (st.set d (.d (.bool (cond neg (!b) b))))->o.wp P a w (cP n0 gl nt w G ρ K) Q:=by
  intro b m oo L au af av aZ bN N;refine p.value U X (v:=.bool (cond neg (!b) b)) ?_ (.cz (.d _ _ (.bool _))) N;have H:=I5 (P:=P) (w:=w) (op:=if neg then .neq else .eql) (t:=t) (x:=x) (y:=z) (v:=m) af av;have S:binOp .eql t (a.eval x) m=(Op.equal t (a.eval x) m>>= λb=>pure (.bool b))/\binOp .neq t (a.eval x) m=(Op.equal t (a.eval x) m>>= λb=>pure (.bool (!b))):=by
   rcases L with rfl|rfl|rfl|rfl<;>(cases hv:a.eval x with
    |int k n=>simp_all
    |string ad=>simp_all
    |_=>exact⟨rfl,rfl⟩)
  cases neg
  .simp_all[execOp]
  simp_all[execOp]
 have ar:∀{q:Prop},(cond neg (!false) false=neg):=λ{_}=>az7;have aI:∀{q:Prop},(cond neg (!true) true=!neg):=λ{_}=>az7;unfold zx at s;split at s
 ·
  simp at s;subst s;simp[step]at l;have heq:∀(B:Option Addr) (n c:Nat),(Op.equal t (.slice B n c) (.slice none 0 0)).run P w=.ok B.isNone w:=by
   intro B n c;have:∀k,(Op.equalIn (k+1) t (.slice B n c) (.slice none 0 0)).run P w=.ok B.isNone w:=λk=>by
    cases B<;>simp[Op.equalIn,eN hu]
   exact this 9999
  split at l
  .rename_i sz q cB j;obtain⟨B,n,aB,C,k3⟩:=h1.xi j;obtain⟨B,rfl⟩:=Option.ne_none_iff_exists'.1 (k3 az7);exact A false _ rfl (.inl rfl) (by rw[C];exact heq _ _ _) (by rw[C];rfl) az8 az8 az8 az8
  .rename_i sz j;obtain⟨B,n,aB,C,k3⟩:=h1.xi j;cases aq:B.isNone with
   |true=>exact A true _ rfl (.inl rfl) (by rw[C,<-aq];exact heq _ _ _) (by rw[C];rfl) az8 az8 az8 (by exact l.2)
   |false=>exact A false _ rfl (.inl rfl) (by rw[C,<-aq];exact heq _ _ _) (by rw[C];rfl) az8 az8 az8 (by rw[ar (q:=True)];exact l.1)
  .exact l.elim
 .simp at s;subst s;simp[step]at l;have heq:∀(r:Option Nat),(Op.equal t (.map r) (.map none)).run P w=.ok r.isNone w:=by
   intro r;have:∀k,(Op.equalIn (k+1) t (.map r) (.map none)).run P w=.ok r.isNone w:=λk=>by
    cases r<;>simp[Op.equalIn,eN hu]
   exact this 9999
  split at l
  .rename_i i j;rw[j]at h1;have g:=h1;cases cg:a.eval x<;>rw[cg]at g<;>cases g;exact A false _ rfl (.inr (.inl rfl)) aA8 aAw az8 az8 az8 az8
  .rename_i j;rw[j]at h1;have g:=h1.je;cases cg:a.eval x<;>rw[cg]at g<;>cases g;exact A true _ rfl (.inr (.inl rfl)) aA8 aAw az8 az8 az8 az8
  .exact l.elim
 .simp at s;subst s;simp[step]at l;have heq:∀(R:Fn) (b c:Array Value),(Op.equal t (.func R b c) .nilFunc).run P w=.ok false w:=by
   intro R b c;have:∀k,(Op.equalIn (k+1) t (.func R b c) .nilFunc).run P w=.ok false w:=λk=>aBj;exact this 9999
  have ay:=by
   have:∀k,(Op.equalIn (k+1) t .nilFunc .nilFunc).run P w=.ok true w:=λk=>aBj;exact this 9999
  split at l
  .rename_i f ff cs j;rw[j]at h1;have g:=h1;cases cg:a.eval x<;>rw[cg]at g<;>cases g;exact A false _ rfl (.inr (.inr (.inl rfl))) (by rw[cg];exact heq _ _ _) aAw az8 az8 az8 az8
  .rename_i f j;rw[j]at h1;have g:=h1.je;cases cg:a.eval x<;>rw[cg]at g<;>cases g;exact A false _ rfl (.inr (.inr (.inl rfl))) (by rw[cg];exact heq _ _ _) aAw az8 az8 az8 az8
  .rename_i j;rw[j]at h1;have g:=h1.je;cases cg:a.eval x<;>rw[cg]at g<;>cases g;exact A true _ rfl (.inr (.inr (.inl rfl))) (by rw[cg];exact ay) aAw az8 az8 az8 az8
  .exact l.elim
 .simp at s;subst s;simp[step]at l;have heq:∀(r:Option Addr),(Op.equal t (.pointer r) (.pointer none)).run P w=.ok r.isNone w:=by
   intro r;have:∀k,(Op.equalIn (k+1) t (.pointer r) (.pointer none)).run P w=.ok r.isNone w:=λk=>by
    cases r<;>simp[Op.equalIn,eN hu]
   exact this 9999
  split at l
  .rename_i i off j;rw[j]at h1;have g:=h1;cases cg:a.eval x<;>rw[cg]at g<;>cases g;exact A false _ rfl (.inr (.inr (.inr rfl))) aA8 aAw az8 az8 az8 az8
  .rename_i cs off j;rw[j]at h1;have g:=h1.je;cases cg:a.eval x<;>rw[cg]at g<;>cases g;exact A false _ rfl (.inr (.inr (.inr rfl))) aA8 aAw az8 az8 az8 az8
  .rename_i j;rw[j]at h1;have g:=h1.je;cases cg:a.eval x<;>rw[cg]at g<;>cases g;exact A true _ rfl (.inr (.inr (.inr rfl))) aA8 aAw az8 az8 az8 az8
  .exact l.elim
 .simp at s;subst s;simp[step]at l;have L:a.eval (.const .nilIface)=.nilIface:=rfl;have aN:∀(b:Bool),(Op.equal t (a.eval x) .nilIface).run P w=.ok b w->(a.eval x=.nilIface\/∃t v,a.eval x=.iface t v)->K (st.set d (.d (.bool (cond neg (!b) b))))->o.wp P a w (cP n0 gl nt w G ρ K) Q:=by
   intro b au E N;refine p.value U X (v:=.bool (cond neg (!b) b)) ?_ (.cz (.d _ _ (.bool _))) N;have H:(eqGuard (if neg then .neq else .eql) t x (.const .nilIface) (a.eval x) .nilIface).run P w=.ok () w:=by
    rcases E with E|⟨F,J,E⟩
    all_goals simp_all[eqGuard]
   have S:binOp .eql t (a.eval x) .nilIface=(Op.equal t (a.eval x) .nilIface>>= λb=>pure (.bool b))/\binOp .neq t (a.eval x) .nilIface=(Op.equal t (a.eval x) .nilIface>>= λb=>pure (.bool (!b))):=by
    rcases E with E|⟨F,J,E⟩<;>rw[E]<;>exact⟨rfl,rfl⟩
   cases neg
   .simp at M H;simp[execOp,M,L,aCD,H,aCH,S.1,au,aCK,aDy]
   .simp at M H;simp[execOp,M,L,aCD,H,aCH,S.2,au,aCK,aC0]
  have bT:(Op.equal t .nilIface .nilIface).run P w=.ok true w:=by
   have:∀k,(Op.equalIn (k+1) t .nilIface .nilIface).run P w=.ok true w:=λk=>aBj;exact this 9999
  have j:∀F J,(Op.equal t (.iface F J) .nilIface).run P w=.ok false w:=by
   intro F J;have:∀k,(Op.equalIn (k+1) t (.iface F J) .nilIface).run P w=.ok false w:=λk=>aBj;exact this 9999
  split at l
  .rename_i F bZ ee;rw[ee]at h1;have g:=h1.je;generalize cg:a.eval x=C at g;cases g;simp_all
  .rename_i ee;rw[ee]at h1;have g:=h1.je;generalize cg:a.eval x=C at g;cases g;simp_all
  .rename_i ee;rw[ee]at h1;have g:=h1.je;generalize cg:a.eval x=C at g;cases g;simp_all
  .exact l.elim
 simp_all
def aC8:=@List.mem_of_getElem?
def aD3:=@List.mem_flatMap
theorem aAx(h:p:=by grind[q7,cw.length]):p:=h
theorem aAy(h:p:=by grind[df]):p:=h
theorem Rd.PK{v:Value}{d:D}(h:Rd w G v d):cw w G v.cells.toList d.cells:=by
 cases h with
 |agg vs cs h=>exact h
 |bool b=>exact .cons _ _ _ _ (.bool b) .nil
 |int k n=>exact .cons _ _ _ _ (.int k n) .nil
 |str s l h=>exact .cons _ _ _ _ (.str s l h) .nil
 |dJ=>exact .cons _ _ _ _ .dJ .nil
 |h9=>exact .cons _ _ _ _ .h9 .nil
 |lL=>exact .cons _ _ _ _ .lL .nil
 |iK=>exact .cons _ _ _ _ .iK .nil
 |fn f=>exact .cons _ _ _ _ (.fn f) .nil
 |iface t v x h=>exact .cons _ _ _ _ (.iface t v x h) .nil
 |kZ a c s=>exact .cons _ _ _ _ (.kZ a c s) .nil
 |list b off n cap sz l vs h1 g m j o=>exact .cons _ _ _ _ (.list b off n cap sz l vs h1 g m j o) .nil
 |e2 b base off vs cs h1 g=>exact .cons _ _ _ _ (.e2 b base off vs cs h1 g) .nil
 |ix t v=>exact .cons _ _ _ _ (.ix t v) .nil
 |lM b p r kl u ks vs h1 g m j=>exact .cons _ _ _ _ (.lM b p r kl u ks vs h1 g m j) .nil
theorem PL{vs us:List Value}{E:TypeId}{fz:Nat×Nat}{L0:Loc}{m:Nat}(c:gD w (.cells ⟨vs++us⟩ E fz) w')(f:vs.length=m)(h1:∀v,v∈vs->v.oneCell'=true):jc w' (fQ w G L0 m) w.heap.size 0 vs:=by
 intro j v a;have d:j<vs.length:=az9;refine⟨?_,?_,h1 v (aC8 a)⟩
 .rw[aDl,cell_of_block c.new];grind
 .intro L n dh;simp_all[fQ,iO]
theorem Jm{sz d:Nat}{l:List D}{vs us:List Value}{E:TypeId}{fz:Nat×Nat}{cap:Nat}(a:gD w (.cells ⟨vs++us⟩ E fz) w')(k:0<sz)(f:∀x,x∈l->x.cells.length=sz)(g:l≠[])
  (c:cw w G vs (l.flatMap D.cells)) (n:l.length<=cap) (p:(vs++us).length=cap*sz) (o:∀j,j<(vs++us).length->¬(fz.1<=j/\j<fz.2)) (h1:∀v,v∈vs->v.oneCell'=true):
  dp w' (fQ w G (.slot d) (l.length*sz)) ρ (.slot d) (.slice (some ⟨w.heap.size,0,none⟩) l.length cap) (.own sz l):=by
 obtain⟨x,l,rfl⟩:=List.exists_cons_of_ne_nil g;have m:vs.length=(x::l).length*sz:=aAx;exact⟨w.heap.size,0,cap,⟨vs++us⟩,E,fz,vs,rfl,n,a.new,o,az8,k,by rw[fQ,iO,aDl],f,PL a m h1,c.keep a.keeps⟩
theorem Rd.E'{v:Value}{d:D}(h:Rd w G v d)(h1:jt d=true):v.oneCell'=true:=by
 cases h<;>first|rfl|grind[jt]
theorem PN{vs:List Value}{l:List D}(h:cw w G vs (l.flatMap D.cells))(h1:∀d,d∈l->d.cells.all jt=true):∀v,v∈vs->v.oneCell'=true:=by
 intro v m;obtain⟨j,g,rfl⟩:=aDJ m;have c:j<(l.flatMap D.cells).length:=by grind[cw.length]
 have f:=h.get (aCB g) (aCB c);have a:=aCC c;obtain⟨d,k,a⟩:=aD3.1 a;exact f.E' ((aCQ.1 (h1 d k)) _ a)
theorem B9{L0:Loc}{m d:Nat}{ob:Obj}{v:Value}{x:ah}{f:ag}(p:b6 n0 gl nt w G ρ lam a st)(dn:b2 gl w G ρ lam a.tmps f)(c:gD w ob w')(bB:L0≠.foreign)(j:o.dst=some d)(k:d<nt)
  (l:dq w' (fQ w G L0 m) ρ lam (.slot d) v x) (g:K (f.set d x)):cP n0 gl nt w G ρ K (a.put o.dst v) w':=
 oi (c.rel (L0:=L0) (n0:=m) p.rel.lt dn) p.eT p.sz k (c.good p.rel.lt bB) (λ_ _ h=>h) j l g
theorem PO{sz:Nat}(p:b6 n0 gl nt w G ρ lam a st):∀{xs:List Operand} {ys:List O} {l:List D},hW (λx y=>∃t,bW P t x=some y) xs ys->elems gl st sz ys=some l->
  l.length=xs.length/\(∀x,x∈l->x.cells.length=sz)/\cw w G (xs.flatMap λx=>(a.eval x).cells.toList) (l.flatMap D.cells)/\(∀x,x∈xs->(a.eval x).cells.size=sz)/\(∀d,d∈l->d.cells.all jt=true)
 |[],_,l,h,he=>by
  cases h;simp[elems,aCz]at he;subst he;exact⟨rfl,az7,.nil,az7,az7⟩
 |x::xs,_,l,h,he=>by
  cases h with
  |cons f h=>
   rename_i y ys;obtain⟨t,f⟩:=f;simp[elems]at he;cases h1:hI (aO gl st y)with
   |none=>simp_all
   |some d=>
    cases g:elems gl st sz ys with
    |none=>simp_all
    |some r=>
     simp[h1,g]at he;cases c:(Nat.beq d.cells.length sz&&d.cells.all jt)with
     |false=>simp_all
     |true=>
      simp[c,aC0,aCz]at he;subst he;simp only[aCx]at c;have o:=aCG c.1;obtain⟨L,j⟩:=dY f p.rel;have v:=(j.hI h1).PK;obtain⟨n,k,m,s,u⟩:=PO p h g;refine⟨az9,?_,?_,?_,?_⟩
      .simp_all
      .grind[cw.append]
      .grind[Array.length_toList,cw.length]
      grind
theorem Jo{sz:Nat}:∀(vs:List Value) (i:Nat) (a rest:List Value),a.length=i*sz->rest.length=vs.length*sz->(∀v,v∈vs->v.cells.size=sz)->
  Instr.fill (λi=>some (i*sz,sz)) ⟨a++rest⟩ ((List.range' i vs.length).zip vs)=some ⟨a++vs.flatMap λv=>v.cells.toList⟩
 |[],i,a,rest,_,f,_=>by
  have:rest=[]:=az8;subst this;rfl
 |v::vs,i,a,rest,hp,f,hs=>by
  have m:=hs v az7;simp only[aCU,aDH,aFY,Instr.fill];have g:sz<=rest.length:=by grind[Nat.add_mul]
  have s:(v.cells.size≠sz||i*sz+v.cells.size>(⟨a++rest⟩:Array Value).size)=false:=az8;have o:v.cells.zipIdx.foldl (λ(d:Array Value) (p:Value×Nat)=>d.setIfInBounds (i*sz+p.2) p.1) ⟨a++rest⟩=⟨(a++v.cells.toList)++rest.drop sz⟩:=by
   have n:∀(c:List Value) (k:Nat) (q r:List Value),q.length=i*sz+k->c.length<=r.length->
     ((c.zipIdx k).foldl (λ(d:Array Value) (p:Value×Nat)=>d.setIfInBounds (i*sz+p.2) p.1) ⟨q++r⟩)=⟨(q++c)++r.drop c.length⟩:=by
    intro c;induction c with
    |nil=>simp
    |cons u c ih=>
     intro k q r aS j;cases r with
     |nil=>simp_all
     |cons y r=>
      simp only[List.zipIdx_cons,aF2];have h1:(⟨q++y::r⟩:Array Value).setIfInBounds (i*sz+k) u=⟨(q++[u])++r⟩:=az8;rw[h1,ih (k+1) (q++[u]) r az9 az8];simp
   grind[Array.toList_zipIdx]
  have:=Jo vs (i+1) (a++v.cells.toList) (rest.drop sz) az9 (by grind[Nat.add_mul]) (λu l=>hs u az9);simp_all
theorem ag9{d t e n len:Nat}{ps:Array (Nat×Operand)}{ys:List O}{z:List ah}(p:b6 n0 gl nt w G ρ lam a st)(A:o.dst=some d)(B:d<nt)(Z:o.op=.buildSlice t len ps)
  (H:P.underlying t=some (.slice e)) (u:df P e=some n) (F:0<n) (s:zeros P e=some z) (M:ps.toList.map (·.1)=List.range len) (oq:len*n<=2^24)
  (aS:hW (λx y=>∃t,bW P t x=some y) (ps.toList.map (·.2)) ys)
  (f:step (bA P gl) gl (.li d n ys) st K):o.wp P a w (cP n0 gl nt w G ρ K) Q:=by
 obtain⟨i,er,h1,S,Y,R,bN⟩:=om s;have di:i.size=n:=aAy;have pX:=az6;simp[step]at f;split at f
 .rename_i l aE;obtain⟨X,r,g,bR,C⟩:=PO p aS aE;have ad:ps.toList.length=len:=by have:=congrArg List.length M;grind
  have L:l.length=len:=az8;have N:ps.map (λx=>(x.1,a.eval x.2))=⟨(List.range' 0 (ps.toList.map λx=>a.eval x.2).length).zip (ps.toList.map λx=>a.eval x.2)⟩:=by
   grind[List.range_eq_range']
  have xx:∀c:Array Value,c.size=len*n->Instr.fill (λi=>some (i*n,n)) c (ps.map (λx=>(x.1,a.eval x.2))).toList=some ⟨(ps.toList.map λx=>a.eval x.2).flatMap λv=>v.cells.toList⟩:=by
   intro c U;have:=Jo (sz:=n) (ps.toList.map λx=>a.eval x.2) 0 [] c.toList az7 az8 (λv hv=>az9);simp_all
  have V:((ps.toList.map λx=>a.eval x.2).flatMap λv=>v.cells.toList)=(ps.toList.map (·.2)).flatMap λx=>(a.eval x).cells.toList:=by
   generalize ps.toList=q;induction q with
   |nil=>rfl
   |cons y ys ih=>grind
  have dA:(Instr.buildSlice t len (ps.map λx=>(x.1,a.eval x.2))).run P w=.ok (.slice (some ⟨w.heap.size,0,none⟩) len len) {w with heap:=w.heap.push (.cells ⟨(ps.toList.map (·.2)).flatMap λx=>(a.eval x).cells.toList⟩ e)}:=by
   have J:¬len*n>2^24:=az6;unfold Instr.buildSlice;simp only[aCD,eN H,aCH,kA u,aEh,aCV J,aCK];simp_all[newRow,sD]
  have E:(execOp a.eval o).run P w=.ok (.value (.slice (some ⟨w.heap.size,0,none⟩) len len)) {w with heap:=w.heap.push (.cells ⟨(ps.toList.map (·.2)).flatMap λx=>(a.eval x).cells.toList⟩ e)}:=aAO;have nN:((ps.toList.map (·.2)).flatMap λx=>(a.eval x).cells.toList).length=len*n:=aAx;have k:gD w (.cells ⟨((ps.toList.map (·.2)).flatMap λx=>(a.eval x).cells.toList)++[]⟩ e) {w with heap:=w.heap.push (.cells ⟨(ps.toList.map (·.2)).flatMap λx=>(a.eval x).cells.toList⟩ e)}:=⟨az7,rfl,rfl⟩;refine gg E (B9 (L0:=.slot d) (m:=l.length*n) p p.rel k az7 A B (.mj ?_) f);by_cases j:l=[]
  .subst j;subst L;exact .cz (.nil _ _)
  .have:=Jm (ρ:=ρ) (d:=d) (cap:=len) k F r j g az6 az8 az7 (PN g C);simp_all
 .exact f.elim
def aCv:=@List.length_map
def aEo:=@Array.length_toList
def aDm:=@List.length_nil
def aDV:=@Nat.zero_mul
def aEp:=@Go.run_loadCells_list
def aCJ:=@List.mem_cons
theorem B'{b m:Nat}:∀{us:List Value} {k:Nat} {w:World} {c:Array Value} {E:TypeId} {fz:Nat×Nat},w.heap[b]?=some (.cells c E fz)->m+k+us.length<=c.size->
  ∃c',(w.setCells b (m+k) us).heap[b]?=some (.cells c' E fz)/\c'.size=c.size/\(∀j,j<m+k\/m+k+us.length<=j->c'[j]?=c[j]?)/\(∀j v,us[j]?=some v->c'[m+k+j]?=some v)/\
   (∀a,a≠b->(w.setCells b (m+k) us).heap[a]?=w.heap[a]?)/\(w.setCells b (m+k) us).heap.size=w.heap.size
 |[],k,w,c,E,fz,h,aE=>⟨c,h,rfl,λ_ _=>rfl,λj v n=>az8,λ_ _=>rfl,rfl⟩
 |u::us,k,w,c,E,fz,h,aE=>by
  have h1:=Jd (off:=m+k) (u:=u) h;obtain⟨c',f,o,p,r,g,l⟩:=B' (b:=b) (m:=m) (us:=us) (k:=k+1) h1 az9;refine⟨c',f,az8,?_,?_,?_,?_⟩
  .grind[Array.getElem?_setIfInBounds_ne]
  .intro j v n;cases j with
   |zero=>
    grind
   |succ j=>
    grind
  .intro a d;have:=g a d;exact this.trans (zN d)
  .have:=l;exact this.trans Je
theorem o5{b:Nat}:∀{us:List Value} {k:Nat} {w:World},(w.setCells b k us).os=w.os/\(w.setCells b k us).output=w.output
 |[],_,_=>⟨rfl,rfl⟩
 |u::us,k,w=>by
  have h:=o5 (b:=b) (us:=us) (k:=k+1) (w:=w.setCell ⟨b,k,none⟩ u);exact⟨h.1.trans rfl,h.2.trans rfl⟩
theorem Fb{b m m':Nat}{L L':Loc}{c c':Array Value}{E:TypeId}{fz:Nat×Nat}(dh:G b=some (L,m))(U:m<=m')(t:w.heap[b]?=some (.cells c E fz))(u:w'.heap[b]?=some (.cells c' E fz))
  (A:∀j,j<m->c'[j]?=c[j]?) (H:c.size<=c'.size) (l:∀k,k≠b->w'.heap[k]?=w.heap[k]?) (X:w'.heap.size=w.heap.size) (R:∀b L n,G b=some (L,n)->b<w.heap.size) (S:L≠.foreign) (Q:L'≠.foreign) (B:w'.os=w.os) (F:w'.output=w.output):
  de w G w' (cK G b (some (L',m')))/\(∀f,f≠L->e5 f f w G w' (cK G b (some (L',m'))))/\Good w G w' (cK G b (some (L',m')))/\(∀p L n,cK G b (some (L',m')) p=some (L,n)->p<w'.heap.size):=by
 have s:de w G w' (cK G b (some (L',m'))):=by
  refine⟨?_,λd o h=> ?_,λd n h=> ?_⟩;rotate_left 2
  .obtain⟨C,P,N,a,g⟩:=h;by_cases au:d=b
   .subst au;rw[t]at a;simp at a;obtain⟨rfl,rfl,rfl⟩:=a;exact⟨c',E,fz,u,aDn g H⟩
   .exact⟨C,P,N,(l _ au).trans a,g⟩
  rotate_left
  .obtain⟨h1,g,a⟩:=h;have au:d≠b:=az9;exact⟨by grind[nK],g,(l _ au).trans a⟩
  intro d V v h;by_cases au:d=b
  .subst au;have z:=h.2.1 _ _ dh;refine⟨?_,?_,h.2.2⟩
   .rw[cell_of_block u,A _ z,<-cell_of_block t];exact h.1
   .intro M K a;grind[iO]
  .refine⟨by rw[zM (l _ au)];exact h.1,?_,h.2.2⟩;intro M K a;rw[nK _ _ au]at a;exact h.2.1 _ _ a
 have J:∀f,f≠L->e5 f f w G w' (cK G b (some (L',m'))):=by
  intro f h1 d n a;have au:d≠b:=az9;grind[nK]
 refine⟨s,J,⟨az6,?_,?_,?_,s,B,F⟩,?_⟩
 .intro d r a;have au:d≠b:=az9;grind[nK]
 .intro d n r a;by_cases au:d=b
  .simp_all
  .rw[nK _ _ au]at a;grind
 .intro d n r a;by_cases au:d=b
  .subst au;rw[iO]at a;simp_all
  grind[nK]
 grind[nK]
theorem jc.one{b off:Nat}{vs:List Value}(h:jc w G b off vs):∀u,u∈vs->u.oneCell'=true:=by
 intro u c;obtain⟨j,a,rfl⟩:=aDJ c;exact(h j _ (aCB a)).2.2
theorem PR(n:Nat):∀(r c:Nat),c<=n+(n+768)/4->Builtin.growBy n r c<=n+(n+768)/4
 |0,c,h=>h
 |r+1,c,h=>by
  unfold Builtin.growBy;split
  .exact h
  .refine PR n r _ ?_;rename_i a;have:c+(c+768)/4<=n+(n+768)/4:=az6;exact this
theorem nextslicecap_le{need a:Nat}(h:a<need):Builtin.nextslicecap need a<=2*need:=by
 grind[Builtin.nextslicecap,PR]
theorem ahc{v:Value}{x:ah}{sz:Nat}{l:List D}{L:Loc}(h:dq w G ρ lam L v x)(c:tJ x=some (sz,l))(J:0<sz):
  ∃us:List Value,(Builtin.lenOf v).run P w=.ok l.length w/\(Builtin.firstCells sz l.length v).run P w=.ok ⟨us⟩ w/\cw w G us (l.flatMap D.cells)/\(∀u,u∈us->u.oneCell'=true)/\(l≠[]->∀d,d∈l->d.cells.length=sz)/\
   ∀{b5:World},(∀b off u,Cell w G b off u->b5.cell? ⟨b,off,none⟩=some u)->(Builtin.firstCells sz l.length v).run P b5=.ok ⟨us⟩ b5:=by
 by_cases A:∃s,x=.d (.str s)
 .obtain⟨s,rfl⟩:=A;obtain⟨rfl,rfl⟩:=c;obtain⟨a,rfl,rfl⟩:=h.str;have au:∀b5:World,(Builtin.firstCells 1 (a.data.toList.map fO).length (.string a)).run P b5=.ok ⟨a.data.toList.map λb=>.int .u8 b.toNat⟩ b5:=by
   intro b5;simp only[Builtin.firstCells,aCv,aEo,aCK];have:(a.extract 0 a.data.size).data=a.data:=az7;congr 1;grind
  refine⟨_,?_,au w,?_,?_,?_,λ_=>au _⟩
  .simp_all[Builtin.lenOf]
  .have:(a.data.toList.map fO).flatMap D.cells=a.data.toList.map fO:=by
    generalize a.data.toList=q;induction q with
    |nil=>rfl
    |cons y ys ih=>simp[aDe,aDO,ih];rfl
   generalize a.data.toList=q;induction q with
   |nil=>exact .nil
   |cons y ys ih=>exact .cons _ _ _ _ (.int _ _) ih
  .intro u p;simp at p;obtain⟨y,_,rfl⟩:=p;rfl
  .intro _ d n;simp at n;obtain⟨y,_,rfl⟩:=n;rfl
 .have H:hJ x=some (sz,l):=by
   cases x with
   |d y=>cases y<;>first|exact c|simp_all|simp[tJ]at c
   |own=>exact c
   |gH=>exact c
   |_=>grind[tJ]
  obtain⟨f,z,rfl,K,E⟩:=(h.hJ H).slice;by_cases o:l=[]
  .subst o;refine⟨[],rfl,?_,.nil,az7,az7,λ_=> ?_⟩
   .cases f with
    |none=>rfl
    |some f=>simp[Builtin.firstCells,aDm,aDV];rfl
   .cases f with
    |none=>rfl
    |some f=>simp[Builtin.firstCells,aDm,aDV];rfl
  .obtain⟨b,off,g,rfl,C,m,t⟩:=E o;have F:g.length=l.length*sz:=aAx;have r:∀{b5:World},(∀b off u,Cell w G b off u->b5.cell? ⟨b,off,none⟩=some u)->(Builtin.firstCells sz l.length (.slice (some ⟨b,off,none⟩) l.length z)).run P b5=.ok ⟨g⟩ b5:=by
    intro b5 k;simp[Builtin.firstCells];rw[<-F];exact aEp (P:=P) b5 ⟨b,off,none⟩ g (λj v B=>by rw[aDv];exact k _ _ _ (m j v B))
   exact⟨g,rfl,r (λ_ _ _ h=>h.1),t,m.one,λ_=>C,λk=>r k⟩
def xG(P:Program)(w:World)(v:Value)(sz k:Nat)(us:List Value):Prop:=
 (Builtin.lenOf v).run P w=.ok k w/\(∀b5:World,b5.heap=w.heap->(Builtin.firstCells sz k v).run P b5=.ok ⟨us⟩ b5)/\(∀u,u∈us->u.oneCell'=true)/\us.length=k*sz
theorem Fe{b5:World}(h:b5.heap=w.heap)(a:Addr):b5.cell? a=w.cell? a:=aA6
theorem Jp{v:Value}{x:ah}{sz:Nat}{l:List D}{L:Loc}(h:dq w G ρ lam L v x)(c:tJ x=some (sz,l))(n:0<sz):
  ∃us:List Value,xG P w v sz l.length us/\cw w G us (l.flatMap D.cells)/\∀d,d∈l->d.cells.length=sz:=by
 obtain⟨us,h1,p,g,f,k,m⟩:=ahc (P:=P) h c n;have a:∀d,d∈l->d.cells.length=sz:=by
  intro d a;exact k az9 d a
 refine⟨us,⟨h1,λb5 o=>m λb r u j=> ?_,f,aAx⟩,g,a⟩;rw[Fe o];exact j.1
theorem PS{i off len _cap sz b:Nat}{v:Value}{cs:List ah}(c:∃f,v=.slice (some ⟨b,off,none⟩) len f)(au:dC w G ρ b (.obj i) (.dk i) cs)(k:off+len*sz<=cs.length)(h1:∀(us:List Value),us.length=len*sz->
   (∀j v x,us[j]?=some v->((cs.drop off).take (len*sz))[j]?=some x->dp w G ρ (.dk i (off+j)) v x)->∀u,u∈us->u.oneCell'=true):
  ∃us:List Value,xG P w v sz len us/\∀j v x,us[j]?=some v->((cs.drop off).take (len*sz))[j]?=some x->dp w G ρ (.dk i (off+j)) v x:=by
 obtain⟨f,rfl⟩:=c;obtain⟨us,a,g,d⟩:=au.range k;refine⟨us,⟨rfl,λb5 l=> ?_,h1 us a d,a⟩,d⟩;simp[Builtin.firstCells];rw[<-a];exact aEp (P:=P) b5 ⟨b,off,none⟩ us (λj v c=>by rw[aDv,Fe l];exact g j v c)
theorem Ff{sz:Nat}(g:0<sz):∀(n:Nat) (l:List D),l.length=n*sz->l.all jt=true->(chunks sz n l).flatMap D.cells=l/\(chunks sz n l).length=n/\∀d,d∈chunks sz n l->d.cells.length=sz
 |0,l,h,_=>by
  grind[chunks]
 |n+1,l,h,h1=>by
  have o:sz<=l.length:=az9;have a:(l.drop sz).all jt=true:=az9;obtain⟨k,c,f⟩:=Ff g n (l.drop sz) az9 a;simp only[chunks];cases hs:Nat.beq sz 1 with
  |true=>
   obtain rfl:sz=1:=aCG hs;cases l with
   |nil=>simp_all
   |cons x l=>
    have j:jt x=true:=az8;have m:x.cells=[x]:=by cases x<;>first|rfl|grind[jt]
    simp_all
  |false=>
   simp only[aDy,aDO,aCU,D.cells];refine⟨az8,by rw[c],?_⟩;intro d a;rcases aCJ.1 a with rfl|a
   .simp_all
   .exact f d a
theorem Fg:∀{xs:List ah} {a:List D},ja xs=some a->a.length=xs.length/\∀(j:Nat) (x:ah) (d:D),xs[j]?=some x->a[j]?=some d->BI x=some d
 |[],a,h=>by grind[ja]
 |x::xs,a,h=>by
  simp[ja]at h;split at h
  .rename_i d m;split at h
   .rename_i l g;simp at h;subst h;obtain⟨h1,k⟩:=Fg g;refine⟨by simp[h1],λj y z f c=> ?_⟩;cases j with
    |zero=>simp at f c;subst f;subst c;exact m
    |succ j=>exact k j y z (by simpa using f) (by simpa using c)
   .simp at h
  .simp at h
theorem PT{v:Value}{x:ah}{sz:Nat}{l:List D}{L:Loc}(H:gK w G ρ st.s)(h:dq w G ρ lam L v x)(a:qY st x=some (sz,l))(o:0<sz):
  ∃us:List Value,xG P w v sz l.length us/\cw w G us (l.flatMap D.cells)/\∀d,d∈l->d.cells.length=sz:=by
 unfold qY at a;split at a
 .rename_i i off len cap c;have J:=h;cases J with
  |aP _ _ _ _ K _ b F U aM=>
   have p:=H.at F;split at a
   .rename_i cs M;rw[M]at p;cases f:Nat.ble (off+len*c) cs.length with
    |false=>simp_all
    |true=>
     rw[f]at a;split at a
     .rename_i ds n;cases m:ds.all jt with
      |false=>simp_all
      |true=>
       rw[m]at a;simp at a;obtain⟨rfl,rfl⟩:=a;have f:=aCM f;obtain⟨f1,X⟩:=Fg n;have z:ds.length=len*c:=az9;obtain⟨C,V,E⟩:=Ff o len ds z m;have s:∀(us:List Value),us.length=len*c->(∀j v x,us[j]?=some v->((cs.drop off).take (len*c))[j]?=some x->dp w G ρ (.dk i (off+j)) v x)->cw w G us ds:=λus r g=>
        zF (LC:=λj=>.dk i (off+j)) (k:=0) az6 (λj v x Q B=>by rw[aDl];exact g j v x Q B) n
       obtain⟨us,R,S⟩:=PS (P:=P) (v:=.slice (some ⟨b,off,none⟩) len K) (len:=len) (sz:=c) (_cap:=cap) ⟨_,rfl⟩ p f (λus r g u N=>by
        have:=s us r g;obtain⟨j,A,rfl⟩:=aDJ N;have t:j<ds.length:=az6;exact(this.get (aCB A) (aCB t)).E' (aCQ.1 m _ (aCC t)))
       refine⟨us,az9,?_,E⟩;rw[C];exact s us R.2.2.2 S
     simp_all
   simp_all
 .exact Jp h a o
theorem dp.gT{v:Value}{x:ah}{L:Loc}(h:dp w G ρ L v x):c7 w G ρ v (gT x):=by
 unfold aG.gT;split
 .exact h
 grind[snap]
theorem Cb{v:Value}{x:ah}{sz k:Nat}{us:List ah}{L:Loc}(A:gK w G ρ st.s)(h:dq w G ρ lam L v x)(a:qX st x sz=some (us,k))(B:0<sz):
  ∃vs:List Value,xG P w v sz k vs/\cu w G ρ vs us:=by
 unfold qX at a;split at a
 .rename_i i off len cap K;have C:=h;cases C with
  |aP _ _ _ _ E _ b z N aM=>
   have n:=A.at z;split at a
   .rename_i cs F;rw[F]at n;cases hle:(Nat.beq K sz&&Nat.ble (off+len*sz) cs.length&&(((cs.drop off).take (len*sz)).map gT).all kT)with
    |false=>grind
    |true=>
     simp only[hle,aC0,aCz,aC6]at a;obtain⟨rfl,rfl⟩:=a;simp only[aCx]at hle;obtain⟨⟨h1,c⟩,d⟩:=hle;have c:=aCM c;have m:∀(us:List Value),us.length=len*sz->(∀j v x,us[j]?=some v->((cs.drop off).take (len*sz))[j]?=some x->dp w G ρ (.dk i (off+j)) v x)->cu w G ρ us (((cs.drop off).take (len*sz)).map gT):=by
      grind[cu.mk,dp.gT]
     obtain⟨vs,p,M⟩:=PS (P:=P) (v:=.slice (some ⟨b,off,none⟩) len E) (len:=len) (sz:=sz) (_cap:=cap) ⟨_,rfl⟩ n c (λus J r u H=>by
      have:=m us J r;obtain⟨j,t,rfl⟩:=aDJ H;have o:j<(((cs.drop off).take (len*sz)).map gT).length:=az9;have g:=aCQ.1 d _ (aCC o);simp only[kT,aCx]at g;exact PD (this.get (aCB t) (aCB o)) g.1)
     exact⟨vs,p,m vs p.2.2.2 M⟩
   simp_all
 .split at a
  .rename_i f l s;cases au:Nat.beq f sz with
   |false=>simp_all
   |true=>
    obtain rfl:f=sz:=aCG au;simp at a;obtain⟨rfl,rfl⟩:=a;obtain⟨vs,h1,c,d⟩:=Jp (P:=P) h s B;grind[cw.ER]
  simp_all
def aE6:=@List.getElem?_cons_zero
def aEq:=@List.getElem?_cons_succ
def aF3:=@Bool.not_false
def aFm:=@Go.run_newObj
def uc:TypeDesc->Bool
 |.slice _|.string=>true
 |_=>false
theorem xH{t u e sz ty n m cap:Nat}{d:TypeDesc}{base:Option Addr}{x:Value}{us:List Value}{w1:World}(a:P.underlying t=some (.slice e))(c:df P e=some sz)
  (o:P.underlying u=some d) (g:uc d=true)
  (l:(Builtin.lenOf x).run P w=.ok m w) (f:(Builtin.firstCells sz m x).run P w=.ok ⟨us⟩ w) (k:n+m<=cap)
  (p:match base with|none=>w1=w|some j=>(storeCells (j.add (n*sz)) us).run P w=.ok () w1):
  (Builtin.append_ #[t,u] ty #[.slice base n cap,x]).run P w=.ok (.slice base (n+m) cap) w1:=by
 unfold Builtin.append_;cases d<;>first
  |(simp[uc]at g;done)
  |(simp only[aDU,aE6,aEq,aCD,eN a,eN o,aCH,kA c,aCK,aDq,aCW,l,aEh,aCT k,aF3,if_true,f]
    grind[Sem.run_pure,Sem.run_bind,Result.andThen_ok])
theorem zP{t u e sz bt ty n m cap:Nat}{d:TypeDesc}{base:Option Addr}{x:Value}{us olds:List Value}{i:TypeInfo}{f:Value}(l:P.underlying t=some (.slice e))(o:df P e=some sz)(hi:P.info? e=some i)(E:i.bytes=bt)(F:i.zero=some f)
  (B:P.underlying u=some d) (s:uc d=true)
  (z:(Builtin.lenOf x).run P w=.ok m w) (r:∀b5:World,b5.heap=w.heap->(Builtin.firstCells sz m x).run P b5=.ok ⟨us⟩ b5) (A:∀b5:World,b5.heap=w.heap->(Builtin.firstCells sz n (.slice base n cap)).run P b5=.ok ⟨olds⟩ b5)
  (G:cap<n+m) (au:0<bt) (K:(n+m)*bt<=140737488355328):
  ∃a w1,(Builtin.append_ #[t,u] ty #[.slice base n cap,x]).run P w=.ok (.slice (some ⟨w.heap.size,0,none⟩) (n+m) a) w1/\n+m<=a/\
   gD w (.cells ⟨(olds++us)++(Builtin.zeroCells f.cells (a-(n+m))).toList⟩ e) w1:=by
 have j:=nextslicecap_le G;have p:¬Builtin.nextslicecap (n+m) cap*bt>2^48:=by
  have h1:Builtin.nextslicecap (n+m) cap*bt<=2*(n+m)*bt:=aDi _ j;grind
 have v:¬n+m<=cap:=az6;have k:∀b5:World,(typeInfo e).run P b5=.ok i b5:=λb5=>by simp[typeInfo,aCD,hi]
 have J:¬(((n+m:Nat):Int)>IntKind.i64.max/\(False\/bt=0)):=az9;obtain⟨a,C⟩:∃c,c=Question.cut (.appendCap (n+m) cap e) (w.tape w.drawn (.appendCap (n+m) cap e)):=⟨_,rfl⟩;refine⟨a,{w with drawn:=w.drawn+1,heap:=w.heap.push (.cells ((⟨olds⟩:Array Value)++⟨us⟩++Builtin.zeroCells f.cells (a-(n+m))) e)},?_,?_,?_⟩;rotate_left
 .rw[C];exact Nat.le_add_right _ _
 .refine⟨?_,rfl,rfl⟩;show w.heap.push _=w.heap.push _;congr 2;simp
 .unfold Builtin.append_;have g:=r {w with drawn:=w.drawn+1} rfl;have H:=A {w with drawn:=w.drawn+1} rfl;cases d<;>first
   |(simp[uc]at s;done)
   |(simp only[aDU,aE6,aEq,aCD,eN l,eN B,aCH,kA o,aCK,aDq,aCW,z,aEh,aCV v,aF3,if_true,k,E,aCV p,sD hi F]
     simp only[run_choose,Question.forced,aDq,aCW,aCH,run_askRoom,aCD,H,g,newRow,aFm,aCK];simp_all)
def aEN:=@Nat.div_mul_le_self
def aFn:=@List.flatMap_append
def aEO:=@Nat.le_of_eq
def aDp:=@List.getElem?_append_right
theorem aAP(h:p:=by grind[bytesOf]):p:=h
theorem aAQ(h:p:=by grind[Builtin.zeroCells]):p:=h
theorem b2.drop{tmps:Array Value}{s:Nat}(h:b2 gl w G ρ lam tmps st):b2 gl w G ρ lam tmps (st.set s .undef) where
 aR t:=by
  simp only[ag.set,dm];by_cases a:t=s
  .simp[a,if_true];exact .cz (.undef _)
  .grind[aR]
 bM:=h.bM
 nb:=h.nb
 ob:=h.ob
 eU:=h.eU
 lt:=h.lt
theorem cw.ahe{us:List Value}(h:cw w G us []):us=[]:=by cases h;rfl
theorem Js{z:ah}{sz d:Nat}{l a:List D}(h:z=.own sz l\/(z=.gH sz/\l=[]))(c:z=iL d a):sz=d/\l=a:=by
 rcases h with rfl|⟨rfl,rfl⟩<;>cases a<;>simp[iL]at c<;>simp[c]
theorem Cc{sz:Nat}{l:List D}(h:l≠[]):iL sz l=.own sz l:=by
 cases l with
 |nil=>simp_all
 |cons _ _=>rfl
theorem PU{z0:ah}{d s t u e sz bt b':Nat}{x:Operand}{ao:TypeDesc}{z:List ah}{us:List Value}{l l2:List D}(p:b6 n0 gl nt w G ρ lam a st)(S:o.dst=some d)(U:d<nt)
  (bE:o.op=.call {callee:=.builtin .append,args:= #[.tmp s,x],argTypes:= #[t,u]}) (N:P.underlying t=some (.slice e)) (V:df P e=some sz) (gh:0<sz)
  (k4:bytesOf P e=some bt) (iQ:0<bt) (mn:b'=140737488355328/bt) (aM:zeros P e=some z) (hu:P.underlying u=some ao) (kb:uc ao=true)
  (xI:xG P w (a.eval x) sz l2.length us) (lR:cw w G us (l2.flatMap D.cells)) (gY:∀d,d∈l2->d.cells.length=sz) (mY:l.length+l2.length<=b') (aj:st.aR s=z0) (L:z0=.own sz l\/(z0=.gH sz/\l=[]))
  (C:K ((st.set s .undef).set d (cond l2.isEmpty z0 (.own sz (l++l2))))):o.wp P a w (cP n0 gl nt w G ρ K) Q:=by
 obtain⟨i,er,hi,oo,sI,gw,_⟩:=om aM;have o6:i.bytes=bt:=aAP;have xJ:er.cells.size=sz:=aAy;have Y:∀{v:Value} {w1:World},(Builtin.append_ #[t,u] o.type #[a.tmps.getD s undef,a.eval x]).run P w=.ok v w1->(execOp a.eval o).run P w=.ok (.value v) w1:=by
  intro v w1 h;have he:a.eval (.tmp s)=a.tmps.getD s undef:=rfl;simp only[execOp,bE,resolve,aCD,aCK,aCH,invoke,builtin,aEj,aDe,aD2,he,h]
 have oq:=by
  have:=aDi bt mY;rw[mn]at this;exact aDn this (aEN _ _)
 obtain⟨ad,rf,kD,tY⟩:=xI;have sG:=rf w rfl;have ou:=p.rel.aR s;rw[aj]at ou;have zS:dp w G ρ (.slot s) (a.tmps.getD s undef) z0:=by rcases L with rfl|⟨rfl,_⟩<;>exact ou
 by_cases ud:l2=[]
 ·
  subst ud;have PV:=lR.ahe;subst PV;have aP:∃g n c,a.tmps.getD s undef=.slice g n c/\n=l.length/\n<=c:=by
   rcases zS.cases with hA|⟨_,eO,r,hO⟩|⟨_,_,_,r,hO⟩
   .rcases L with rfl|⟨rfl,_⟩<;>cases f:a.tmps.getD s undef<;>rw[f]at hA<;>cases hA
    grind
   .obtain⟨rfl,rfl⟩:=Js L r;rcases hO with⟨b,off,cap,c,ai,fz,A,h1,R,_⟩|⟨rfl,g,h1⟩
    all_goals grind
   simp_all
  obtain⟨g,n,c,f,aq,az⟩:=aP;have B:=xH (P:=P) (ty:=o.type) (n:=n) (m:=0) (cap:=c) (base:=g) (w1:=w) N V hu kb ad sG az6 (by cases g<;>rfl);rw[aDc,<-f]at B;rw[<-aj]at C;have ar:=Y B;exact gg ar (I3 p.rel p.eT p.sz U (Good.refl p.rel.lt) (λ_ _ h=>h) S C)
 .have hm:0<l2.length:=List.length_pos_iff.2 ud;have sA:l2.isEmpty=false:=az8;rw[sA]at C;simp at C;have grow:∀(g:Option Addr) (cap:Nat) (J:List Value),a.tmps.getD s undef=.slice g l.length cap->(∀b5:World,b5.heap=w.heap->(Builtin.firstCells sz l.length (.slice g l.length cap)).run P b5=.ok ⟨J⟩ b5)->
    cw w G J (l.flatMap D.cells)->(∀u,u∈J->u.oneCell'=true)->(∀d,d∈l->d.cells.length=sz)->cap<l.length+l2.length->o.wp P a w (cP n0 gl nt w G ρ K) Q:=by
   intro g cap J f aB aN zR aE ay;have aQ:∀b5:World,b5.heap=w.heap->∀b off u,Cell w G b off u->b5.cell? ⟨b,off,none⟩=some u:=by
    intro b5 R b off u r;have:=zM (w:=w) (w':=b5) (b:=b) (off:=off) (by rw[R]);rw[this];exact r.1
   obtain⟨X,w1,B,Fi,ig⟩:=zP (P:=P) (ty:=o.type) (base:=g) (x:=a.eval x) N V hi o6 oo hu kb ad rf aB ay iQ oq;rw[<-f]at B;have gW:∀d,d∈l++l2->d.cells.length=sz:=az9;have uf:(l++l2).length=l.length+l2.length:=az7;have nO:(Builtin.zeroCells er.cells (X-(l.length+l2.length))).toList.length=(X-(l.length+l2.length))*sz:=aAQ;have Fj:J.length=l.length*sz:=aAx;refine gg (Y B) (B9 (L0:=.slot d) (m:=(l++l2).length*sz) p p.rel.drop ig az7 S U (.mj ?_) C);have:=Jm (ρ:=ρ) (d:=d) (cap:=X) ig gh gW az8 (by rw[aFn];exact aN.append lR) az6
    (by
     rw[aCF,aCF,Fj,tY,nO,<-aDx,<-aDx];simp_all)
    az7 (λv f=>az9)
   simp_all
  have gX:(l=[]/\∃g,a.tmps.getD s undef=.slice g 0 0)\/mh w G (.slot s) (a.tmps.getD s undef) sz l:=by
   rcases zS.cases with hA|⟨vL,eO,heq,hO⟩|⟨_,_,_,heq,hO⟩
   .left;rcases L with rfl|⟨rfl,_⟩<;>cases f:a.tmps.getD s undef<;>rw[f]at hA<;>cases hA
    simp
   .obtain⟨rfl,rfl⟩:=Js L heq;exact hO.symm
   simp_all
  rcases gX with⟨rfl,g,f⟩|hO
  ·
   refine grow g 0 [] f (λb5 _=> ?_) .nil az7 az7 az6;cases g with
   |none=>rfl
   |some g=>simp[Builtin.firstCells,aDm,aDV];rfl
  .obtain⟨b,off,cap,c,ai,fz,A,h1,R,r,aZ,bN,cT,hK,gL,Z,lv⟩:=hO;have nN:A.length=l.length*sz:=aAx;by_cases mZ:l.length+l2.length<=cap
   ·
    have Fk:off+l.length*sz+0+us.length<=c.size:=by
     rw[tY];have:(l.length+l2.length)*sz<=cap*sz:=aDi _ mZ;grind
    obtain⟨c',M,xK,ug,sJ,sK,sL⟩:=B' (b:=b) (m:=off+l.length*sz) (us:=us) (k:=0) r Fk;rw[aDc]at M ug sJ sK sL;obtain⟨F,H,dN,Cd⟩:=Fb (w:=w) (L':=.slot d) (m':=off+(l.length+l2.length)*sz) hK az9 r M (λj E=>ug j az6) (aEO xK.symm) sK sL p.rel.lt az7 az7 o5.1 o5.2;have uh:=aEn (P:=P) b (off+l.length*sz) us 0 w
     (λj E=>by
      rw[aDc,cell_of_block r];grind)
     (λj E=>by
      rw[aDc,tZ r];have:off+l.length*sz+j<c.size:=az6;grind)
     kD
    rw[aDc]at uh;have B:=xH (P:=P) (ty:=o.type) (n:=l.length) (m:=l2.length) (cap:=cap) (base:=some ⟨b,off,none⟩) (w1:=w.setCells b (off+l.length*sz) us) N V hu kb ad sG mZ
     (show(storeCells ((⟨b,off,none⟩:Addr).add _) us).run P w=_ by grind[Addr.add_mid])
    rw[<-h1]at B;refine gg (Y B) ?_;have dn:b2 gl (w.setCells b (off+l.length*sz) us) (cK G b (some (.slot d,off+(l.length+l2.length)*sz))) ρ lam a.tmps (st.set s .undef):=by
     refine⟨λt=> ?_,?_,p.rel.nb,p.rel.ob.b0 F (λ_=>H _ az7) (λ_ _=>H _ az7),p.rel.eU.b0 F,Cd⟩
     .simp only[ag.set,dm];by_cases fK:t=s
      .simp[fK,if_true];exact .cz (.undef _)
      .simp only[fK,aCW];exact(p.rel.aR t).b0 F (λ_ _ h=>h) (λ_ _ h=>h) (H _ az9)
     .intro t cs au;obtain⟨aT,g1,g2⟩:=p.rel.bM t cs au;exact⟨aT,g1,dC.b0 F (λ_ _ h=>h) (H _ az7) (λj=>H _ az7) g2⟩
    rw[<-Cc (sz:=sz) (l:=l++l2) (by simp[ud])]at C;refine oi dn p.eT p.sz U dN (λ_ _ h=>h) S (.mj (.Pb ?_)) C;have ot:(l++l2).length=l.length+l2.length:=aCF;refine⟨b,off,cap,c',ai,fz,A++us,az7,az6,M,az9,az6,cT,?_,?_,?_,?_⟩
    .grind[iO]
    .grind
    .intro j v f;rcases aDo j A.length with E|E
     .rw[aDj E]at f;exact F.1 _ _ _ (Z j v f)
     .rw[aDp E]at f;have mo:j-A.length<us.length:=az9;refine⟨?_,?_,kD v (aC8 f)⟩
      .rw[cell_of_block M];have:=sJ (j-A.length) v f;rw[show off+l.length*sz+(j-A.length)=off+j by omega]at this;omega
      .intro jv n dh;grind[iO]
    grind[cw.append,cw.keep]
   .refine grow (some ⟨b,off,none⟩) cap A h1 (λb5 hw=> ?_) lv Z.one gL az6;simp[Builtin.firstCells];rw[<-nN];exact aEp (P:=P) b5 ⟨b,off,none⟩ A (λj v f=>by
     rw[aDv,zM (w:=w) (w':=b5) (by rw[hw])];exact(Z j v f).1)
theorem sM{s t u:Nat}{x:Operand}{v:Value}{w1:World}(c:o.op=.call {callee:=.builtin .append,args:= #[.tmp s,x],argTypes:= #[t,u]})
  (h:(Builtin.append_ #[t,u] o.type #[a.tmps.getD s undef,a.eval x]).run P w=.ok v w1):(execOp a.eval o).run P w=.ok (.value v) w1:=by
 have d:a.eval (.tmp s)=a.tmps.getD s undef:=rfl;simp only[execOp,c,resolve,aCD,aCK,aCH,invoke,builtin,aEj,aDe,aD2,d,h]
theorem b2.zT{d:Nat}{ob:Obj}{v:Value}{x:ah}{vo:cc}(h:b2 gl w G ρ lam a.tmps st)(A:gD w ob w')(p:d<a.tmps.size)
  (C:ky w' (fQ w G (.obj st.s.length) 0) (ρ++[w.heap.size+1]) st.s.length w.heap.size vo) (m:c7 w' (fQ w G (.obj st.s.length) 0) (ρ++[w.heap.size+1]) v x):
  b2 gl w' (fQ w G (.obj st.s.length) 0) (ρ++[w.heap.size+1]) lam (a.tmps.setIfInBounds d v) ({st with s:=st.s++[vo]}.set d x):=by
 have c:∀i b:Nat,ρ[i]?=some (b+1)->(ρ++[w.heap.size+1])[i]?=some (b+1):=λi b f=>iP i _ f;have bB:=A.rel (L0:=.obj st.s.length) (n0:=0) h.lt h;refine b2.set (st:={st with s:=st.s++[vo]}) ⟨λt=> ?_,?_,bB.nb,⟨aA7,?_⟩,bB.eU,bB.lt⟩ p (.cz m)
 .exact(bB.aR t).b0 (de.refl _ _) c (λ_ _ h=>h) (λb n h=>⟨rfl,h⟩)
 .intro t z k;obtain⟨b,h1,l⟩:=bB.bM t z k;exact⟨b,h1,dC.b0 (de.refl _ _) c (λb n h=>⟨rfl,h⟩) (λj b n h=>⟨rfl,h⟩) l⟩
 .intro i b o au g;rcases E2 au with u|⟨f,B⟩
  .have r:i<st.s.length:=by
    rw[<-h.ob.1];grind
   rw[aDj r]at g;exact(bB.ob.2 i b o u g).b0 (de.refl _ _) c (λb n h=>⟨rfl,h⟩) (λj b n h=>⟨rfl,h⟩)
  .obtain rfl:w.heap.size=b:=by omega
   have E:i=st.s.length:=by rw[<-h.ob.1];omega
   simp_all
theorem gK.kill{s:aY}(h:gK w G ρ s)(i:Nat):gK w G ρ (s.set i .dead):=by
 refine⟨by simpa using h.1,λj b g d a=> ?_⟩;by_cases c:j=i
 .subst c;have f:j<s.length:=az9;rw[aDf f]at a;simp at a;subst a;trivial
 .rw[aDb (aCP c)]at a;exact h.2 j b g d a
theorem b2.aw5{tmps:Array Value}(h:b2 gl w G ρ lam tmps st)(i:Nat):b2 gl w G ρ lam tmps {st with s:=st.s.set i .dead} where
 aR:=h.aR
 bM:=h.bM
 nb:=h.nb
 ob:=h.ob.kill i
 eU:=h.eU
 lt:=h.lt
def jU(i j:Nat):Loc->Loc
 |.obj k=>if k=i then .obj j else .obj k
 |.dk k c=>if k=i then .dk j c else .dk k c
 |L=>L
theorem PW{i j:Nat}{L:Loc}(h1:L≠.obj i)(a:∀c,L≠.dk i c):jU i j L=L:=by
 cases L<;>simp[jU]<;>first|rfl|simp_all
theorem PX{i j:Nat}(h:∀b L n,G b=some (L,n)->b<w.heap.size):Good w G w (da (jU i j) G):=
 Ph h rfl λL a=>by
  cases L<;>simp[jU]at a<;>first|(grind)|simp at a|rfl
theorem b2.ahg{tmps:Array Value}{i b:Nat}{cs:List ah}(h:b2 gl w G ρ lam tmps st)(au:st.s.getD i .dead=.box cs)(hi:ρ[i]?=some (b+1)):
  b2 gl w (da (jU i st.s.length) G) (ρ++[b+1]) lam tmps {st with s:=st.s.set i .dead++[.box cs]}/\Good w G w (da (jU i st.s.length) G):=by
 have g:∀i m:Nat,ρ[i]?=some (m+1)->(ρ++[b+1])[i]?=some (m+1):=λi m hi=>iP i _ hi;have f:de w G w (da (jU i st.s.length) G):=kz _;have d:∀L,L≠.obj i->(∀c,L≠.dk i c)->e5 L L w G w (da (jU i st.s.length) G):=λL h1 l=>sv (PW h1 l);have z:=aBF;refine⟨⟨λt=>(h.aR t).b0 f g (λ_ _ h=>h) (d _ az7 az7),?_,h.nb,⟨aA7,?_⟩,h.eU.b0 f,sw h.lt⟩,PX h.lt⟩
 .intro t v u;obtain⟨aT,h1,l⟩:=h.bM t v u;exact⟨aT,h1,dC.b0 f g (d _ az7 az7) (λj=>d _ az7 az7) l⟩
 .intro j aT ob r a;rcases E2 r with o|⟨o,C⟩
  .have A:j<st.s.length:=by
    rw[<-h.ob.1];grind
   rw[aDj az8]at a;by_cases n:j=i
   .subst n;rw[aDf A]at a;simp at a;subst a;trivial
   .rw[aDb (aCP n)]at a;exact(h.ob.2 j aT ob o a).b0 f g (d _ az8 az7) (λk=>d _ az7 az8)
  .obtain rfl:b=aT:=by omega
   have B:j=st.s.length:=by rw[<-h.ob.1];omega
   subst B;simp at a;subst a;have p:=o1 (w:=w) (G:=G) (jU i st.s.length) (.obj i);simp[jU,if_true]at p;refine dC.b0 f g p (λk=> ?_) z;have E:=o1 (w:=w) (G:=G) (jU i st.s.length) (.dk i k);simp_all[jU]
def aDh:=@Array.getElem?_eq_getElem
def aCE:=@decide_eq_false_iff_not
def aE7:=@List.getElem?_eq_none
def aDK:=@List.append_assoc
def aFo:=@List.size_toArray
def aDk:=@List.length_take
theorem aAz(h:p:=by rw[<-p.rel.ob.1];simp):p:=h
theorem aAG(h:p:=by rw[aDk];omega):p:=h
theorem dC.short{b:Nat}{L:Loc}{LC:Nat->Loc}{cs:List ah}(h:dC w G ρ b L LC cs)(m:Nat):dC w G ρ b L LC (cs.take m):=by
 obtain⟨c,E,f,h1,a,d,g,l⟩:=h;refine⟨c,E,f,h1,a,d,az9,λj v x n k=> ?_⟩;grind
theorem b2.ahh{tmps:Array Value}{i:Nat}(h:b2 gl w G ρ lam tmps st):
  b2 gl w (da (jU i st.s.length) G) ρ lam tmps {st with s:=st.s.set i .dead}/\Good w G w (da (jU i st.s.length) G):=by
 have f:de w G w (da (jU i st.s.length) G):=kz _;have d:∀L,L≠.obj i->(∀c,L≠.dk i c)->e5 L L w G w (da (jU i st.s.length) G):=λL h1 l=>sv (PW h1 l);refine⟨⟨λt=>(h.aR t).b0 f (λ_ _ h=>h) (λ_ _ h=>h) (d _ az7 az7),?_,h.nb,⟨aA7,?_⟩,h.eU.b0 f,sw h.lt⟩,PX h.lt⟩
 .intro t p o;obtain⟨g,h1,l⟩:=h.bM t p o;exact⟨g,h1,dC.b0 f (λ_ _ h=>h) (d _ az7 az7) (λj=>d _ az7 az7) l⟩
 .intro j g ob n a;by_cases m:j=i
  .subst m;have r:j<st.s.length:=az9;rw[aDf r]at a;simp at a;subst a;trivial
  .rw[aDb (aCP m)]at a;exact(h.ob.2 j g ob n a).b0 f (λ_ _ h=>h) (d _ az8 az7) (λk=>d _ az7 az8)
theorem b2.ahi{tmps:Array Value}{i b:Nat}{cs xs:List ah}{us:List Value}(h:b2 gl w G ρ lam tmps st)(au:st.s.getD i .dead=.box cs)(hi:ρ[i]?=some (b+1))(X:cu w G ρ us xs)
  (L:tP w b (cs.length+us.length)):
  b2 gl (w.setCells b cs.length us) (cK G b (some (.obj i,0))) ρ lam tmps {st with s:=st.s.set i (.box (cs++xs))}/\Good w G (w.setCells b cs.length us) (cK G b (some (.obj i,0))):=by
 have P:=aBF;obtain⟨ad,E,R,h1,Z,F,Y,J⟩:=P;obtain⟨c2,ub,pY,p,z2⟩:=L;rw[h1]at p;obtain⟨rfl,rfl,rfl⟩:=p;obtain⟨K,n,V,B,u,z,A⟩:=B' (b:=b) (m:=cs.length) (us:=us) (k:=0) h1 az6;rw[aDc]at n B u z A;obtain⟨d,a,M,H⟩:=Fb (w:=w) (L':=.obj i) (m':=0) F (aCw _) h1 n (λj f=>az6) (aEO V.symm) z A h.lt az7 az7 o5.1 o5.2;refine⟨⟨λt=>(h.aR t).b0 d (λ_ _ h=>h) (λ_ _ h=>h) (a _ az7),?_,h.nb,⟨aAN,?_⟩,h.eU.b0 d,H⟩,M⟩
 .intro t N C;obtain⟨aT,g1,g2⟩:=h.bM t N C;exact⟨aT,g1,dC.b0 d (λ_ _ h=>h) (a _ az7) (λj=>a _ az7) g2⟩
 .intro j aT ob f c;by_cases o:j=i
  .subst o;rw[hi]at f;simp at f;obtain rfl:b=aT:=az6;have Q:j<st.s.length:=az9;rw[aDf Q]at c;simp at c;subst c;refine⟨K,E,R,n,az8,by rw[iO],aAF,λk v x r l=> ?_⟩;rcases aDo k cs.length with g|g
   .rw[aDj g]at l;rw[B k (.inl g)]at r;exact(J k v x r l).b0 d (λ_ _ h=>h) (a _ az7)
   .rw[aDp g]at l;have S:k-cs.length<us.length:=aAF;have U:=aCB S;have:=u (k-cs.length) _ U;rw[show cs.length+(k-cs.length)=k by omega]at this;grind[dp.cz,c7.keep,cu.get]
  .rw[aDb (aCP o)]at c;exact(h.ob.2 j aT ob f c).b0 d (λ_ _ h=>h) (a _ az8) (λk=>a _ az7)
theorem PY{s:aY}{i:Nat}{cs:List ah}(h:s.getD i .dead=.box cs):i<s.length:=az9
theorem ahj{d s t u e sz bt b' i off len cap k:Nat}{x:Operand}{ao:TypeDesc}{z cs us:List ah}{vs:List Value}(p:b6 n0 gl nt w G ρ lam a st)(bb:o.dst=some d)(bu:d<nt)
  (bE:o.op=.call {callee:=.builtin .append,args:= #[.tmp s,x],argTypes:= #[t,u]}) (aK:P.underlying t=some (.slice e)) (J:df P e=some sz) (aB:0<sz)
  (k4:bytesOf P e=some bt) (iQ:0<bt) (mn:b'=140737488355328/bt) (aM:zeros P e=some z) (hu:P.underlying u=some ao) (kb:uc ao=true)
  (xI:xG P w (a.eval x) sz k vs) (lR:cu w G ρ vs us) (aF:len+k<=b') (aj:st.aR s=.aP i off len cap sz) (B:st.s.getD i .dead=.box cs)
  (A:cond (Nat.ble (len+k) cap)
    (Nat.ble (off+(len+k)*sz) cs.length=true/\K ({st with s:=st.s.set i (.box (putCells cs (off+len*sz) us))}.set d (.aP i off (len+k) cap sz)))
    ((Nat.beq off 0&&Nat.ble (len*sz) cs.length)=true/\K ({st with s:=st.s.set i .dead++[cc.box (cs.take (len*sz)++us)]}.set d (.aP st.s.length 0 (len+k) (len+k) sz)))):o.wp P a w (cP n0 gl nt w G ρ K) Q:=by
 obtain⟨i1,er,hi,oo,sI,gw,_⟩:=om aM;have o6:=by unfold bytesOf at k4;rw[hi]at k4;simpa using k4
 have xJ:=by unfold df at J;simp at J;omega
 have oq:=by
  have:=aDi bt aF;rw[mn]at this;exact aDn this (aEN _ _)
 obtain⟨ad,rf,kD,tY⟩:=xI;have sG:=rf w rfl;have ou:=p.rel.aR s;rw[aj]at ou;have hA:=ou;generalize l:a.tmps.getD s undef=v at hA;cases hA with
 |aP _ _ _ _ U _ b R iB tX=>
  have fu:=by have:=p.rel.ob.at R;rwa [B]at this
  have e8:=PY B;have uh:∀c E g,w.heap[b]?=some (.cells c E g)->(∀j,j<c.size->¬(g.1<=j/\j<g.2))->off+(len+k)*sz<=c.size->
    (storeCells ((⟨b,off,none⟩:Addr).add (len*sz)) vs).run P w=.ok () (w.setCells b (off+len*sz) vs):=by
   intro c E g F L V;have ay:∀j,j<vs.length->off+len*sz+j<c.size:=by
    intro j f;rw[aDx]at V;omega
   have:=aEn (P:=P) b (off+len*sz) vs 0 w
    (λj f=>by
     rw[aDc,cell_of_block F,aDh (ay j f)];rfl)
    (λj f=>by
     rw[aDc,tZ F];have:=L _ (ay j f);simp only[Bool.and_eq_false_imp,aCA,aCE];exact λaj B=>this ⟨aj,B⟩)
    kD
   rw[aDv];exact this
  cases X:Nat.ble (len+k) cap with
  |true=>
   rw[X]at A;obtain⟨V,A⟩:=A;have V:=aCM V;have X:=aCM X;have Z:=fu;obtain⟨c,E,g,h1,M,F,L,bN⟩:=Z;have r:=xH (P:=P) (ty:=o.type) (n:=len) (m:=k) (cap:=U) (base:=some ⟨b,off,none⟩) (w1:=w.setCells b (off+len*sz) vs) aK J hu kb ad sG az6 (uh c E g h1 M az6);rw[<-l]at r;obtain⟨H,S⟩:=p.rel.B8 (off:=off+len*sz) R B lR;refine gg (sM bE r) (oi H p.eT p.sz bu S (λ_ _ h=>h) bb (.cz (.aP _ _ _ _ _ _ _ R iB (S.keep.2.2 _ _ tX))) A)
  |false=>
   rw[X]at A;obtain⟨fk,A⟩:=A;simp only[aCx]at fk;obtain rfl:off=0:=aCG fk.1;have iT:=aCM fk.2;have ui:(cs.take (len*sz)).length=len*sz:=aAG;by_cases Ju:len+k<=U
   ·
    obtain⟨c,E,g,h1,M,F,L,bN⟩:=fu;obtain⟨c2,ub,pY,hl,z2⟩:=tX;rw[h1]at hl;simp at hl;obtain⟨rfl,rfl,rfl⟩:=hl;have uj:(len+k)*sz<=c.size:=by
     have:=aDi sz Ju;omega
    have r:=xH (P:=P) (ty:=o.type) (n:=len) (m:=k) (cap:=U) (base:=some ⟨b,0,none⟩) (w1:=w.setCells b (0+len*sz) vs) aK J hu kb ad sG Ju (uh c E g h1 M az6);rw[<-l]at r;obtain⟨m1,m2⟩:=p.rel.ahg B R;have m3:b2 gl w (da (jU i st.s.length) G) (ρ++[b+1]) lam a.tmps {st with s:=st.s.set i .dead++[.box (cs.take (len*sz))]}:=by
     refine⟨m1.aR,m1.bM,m1.nb,⟨by simpa using m1.ob.1,λj aT ob f cf=> ?_⟩,m1.eU,m1.lt⟩;rcases E2 cf with xL|⟨lS,E3⟩
     .refine m1.ob.2 j aT ob f ?_;have fv:j<(st.s.set i .dead).length:=by
       rcases aDo j (st.s.set i .dead).length with dM|dM
       .exact dM
       .rw[aE7 dM]at xL;simp at xL
      show(st.s.set i .dead++[.box cs])[j]?=some ob;rw[aDj fv];exact xL
     .subst E3;have:=m1.ob.2 j aT (.box cs) f (by
       show(st.s.set i .dead++[.box cs])[j]?=some (.box cs);rw[lS,aDp (aCw _)];simp)
      exact dC.short this _
    have Jv:({st with s:=st.s.set i .dead++[.box (cs.take (len*sz))]}:ag).s.getD st.s.length .dead=.box (cs.take (len*sz)):=by
     show(st.s.set i .dead++[cc.box (cs.take (len*sz))]).getD st.s.length .dead=_;rw[aC4,aDp az7];simp
    have Y:(ρ++[b+1])[st.s.length]?=some (b+1):=aAz;obtain⟨bP,bZ⟩:=m3.ahi Jv Y (lR.keep m2.keep (λi b h=>iP i _ h)) ⟨c,E,g,h1,by rw[ui,tY,<-aDx];exact uj⟩;rw[ui]at bP bZ;rw[aDl]at r;have jh:(st.s.set i .dead++[cc.box (cs.take (len*sz))]).set st.s.length (.box (cs.take (len*sz)++us))=st.s.set i .dead++[cc.box (cs.take (len*sz)++us)]:=by
     rw[List.set_append_right _ _ az7];simp
    simp at bP;refine gg (sM bE r) (oi bP p.eT p.sz bu (m2.trans bZ) (λi b h=>iP i _ h) bb (.cz (.aP _ _ _ _ _ _ _ Y Ju ?_)) A);exact bZ.keep.2.2 _ _ ⟨c,E,g,h1,z2⟩
   ·
    have Z:=fu;obtain⟨c,E,g,h1,M,F,L,bN⟩:=Z;have PZ:(c.toList.take (len*sz)).length=len*sz:=az9;have ar:∀b5:World,b5.heap=w.heap->(Builtin.firstCells sz len (.slice (some ⟨b,0,none⟩) len U)).run P b5=.ok ⟨c.toList.take (len*sz)⟩ b5:=by
     intro b5 nc;simp[Builtin.firstCells];have:=aEp (P:=P) b5 ⟨b,0,none⟩ (c.toList.take (len*sz)) (λj v l=>by
      rw[aDv,Fe nc,aDl,cell_of_block h1];grind)
     simp_all
    obtain⟨rh,w1,r,Fl,C⟩:=zP (P:=P) (ty:=o.type) (base:=some ⟨b,0,none⟩) (x:=a.eval x) aK J hi o6 oo hu kb ad rf ar az6 iQ oq;rw[<-l]at r;obtain⟨H,S⟩:=p.rel.ahh (i:=i);have jT:(st.s.set i .dead).length=st.s.length:=az7;have Fm:=C.keeps (G:=da (jU i st.s.length) G) (L0:=.obj st.s.length) (n0:=0);have nO:(Builtin.zeroCells er.cells (rh-(len+k))).toList.length=(rh-(len+k))*sz:=aAQ;have vM:dC w1 (fQ w (da (jU i st.s.length) G) (.obj st.s.length) 0) (ρ++[w.heap.size+1]) w.heap.size (.obj st.s.length) (.dk st.s.length) (cs.take (len*sz)++us):=by
     refine⟨_,e,(0,0),C.new,az7,aAv,?_,λj v x l N=> ?_⟩
     .grind[cu.length]
     .rw[aDU]at l;rcases aDo j (len*sz)with f|f
      .rw[aDj az6,aD0,aCT f]at N;rw[aDK,aDj az6,aD0,aCT f,Array.getElem?_toList]at l;have jf:=bN j v x l N;have s2:=o1 (w:=w) (G:=G) (jU i st.s.length) (.dk i j);simp[jU,if_true]at s2;have EW:=jf.b0 (ρ':=ρ) (kz (jU i st.s.length)) (λ_ _ h=>h) s2;exact EW.b0 Fm (λi b h=>iP i _ h) (C.same (L0:=.obj st.s.length) (n0:=0) H.lt _)
      .rw[aDp az6,ui]at N;have mo:j-len*sz<vs.length:=aAF;rw[aDK,aDp az6,PZ,aDj mo]at l;exact .cz (((lR.get l N).keep (kz (jU i st.s.length)) (λ_ _ h=>h)).keep Fm (λi b h=>iP i _ h))
    have Y:(ρ++[w.heap.size+1])[st.s.length]?=some (w.heap.size+1):=aAz;have jF:=b2.zT (a:=a) (d:=d) (v:=.slice (some ⟨w.heap.size,0,none⟩) (len+k) rh) (x:=.aP st.s.length 0 (len+k) (len+k) sz) (vo:=.box (cs.take (len*sz)++us)) (st:={st with s:=st.s.set i .dead}) H C (aC2 bu p.sz)
     (by show dC _ _ _ _ (.obj (st.s.set i .dead).length) (.dk (st.s.set i .dead).length) _;simp_all)
     (by
      simp;refine .aP _ _ _ _ _ _ _ Y Fl ⟨_,e,(0,0),C.new,?_⟩;simp only[aFo,aCF,PZ,tY,nO];rw[<-aDx,<-aDx];simp_all)
    simp at jF;refine gg (sM bE r) (lx p.eT (put_defers _ _ _) aAe _ (ρ++[w.heap.size+1]) lam _ ?_ (S.trans (C.good H.lt (L0:=.obj st.s.length) (n0:=0) az7)) (λi b h=>iP i _ h) A);rw[bb];exact jF
def aCR:=@List.map_append
theorem ahl{v:ah}{x:fb}(h:IL v=some x):v=x.val:=by
 unfold IL at h;split at h
 .simp at h;subst h;rfl
 .simp at h;subst h;rfl
 simp_all
theorem Jw:∀{us:List ah} {cs:List fb},vz us=some cs->us=jS cs
 |[],cs,h=>by simp[vz,aCz]at h;subst h;rfl
 |v::us,cs,h=>by
  simp[vz]at h;split at h
  .rename_i x xs h1 a;simp at h;subst h;rw[ahl h1,Jw a];rfl
  .simp at h
theorem ahm{v:Value}{x:fb}(h:c7 w G ρ v x.val):c7 w G ρ' v x.val:=by
 cases x with
 |d x=>cases (show c7 w G ρ v (.d x)from h)with|d _ _ h=>exact .d _ _ h
 |nil z=>cases (show c7 w G ρ v (.own z [])from h)with|nil a=>exact .nil _ _
theorem xM:∀{cs:List fb} {vs:List Value},cu w G ρ vs (jS cs)->cu w G ρ' vs (jS cs)
 |[],_,h=>by cases h;exact .nil
 |x::cs,_,h=>by cases h with|cons v _ vs _ h1 a=>exact .cons _ _ _ _ (ahm h1) (xM a)
theorem P0(cs a:List fb):jS (cs++a)=jS cs++jS a:=aCR
theorem P1{d sz e n k a:Nat}{olds vs zs:List Value}{cs c:List fb}{w1:World}(g:gD w (.cells ⟨(olds++vs)++zs⟩ e) w1)(p:n+k<=a)(m:0<sz)(l:olds.length=n*sz)(f:vs.length=k*sz)(r:zs.length=(a-(n+k))*sz)
  (s:cu w G ρ olds (jS cs)) (t:cu w G ρ vs (jS c)) (h1:∀u,u∈olds->u.oneCell'=true) (z:∀u,u∈vs->u.oneCell'=true):
  pT w1 (fQ w G (.slot d) 0) (.slot d) (.slice (some ⟨w.heap.size,0,none⟩) (n+k) a) sz (n+k) (cs++c):=by
 have o:=g.keeps (G:=G) (L0:=.slot d) (n0:=0);refine⟨w.heap.size,a,_,e,(0,0),olds++vs,rfl,p,g.new,az7,?_,m,aAv,?_,λj v f=>⟨?_,?_⟩,?_⟩
 .rw[aFo,aCF,aCF,l,f,r,<-aDx,<-aDx];simp_all
 .grind
 .grind
 .grind
 .rw[P0];exact((xM s).append (xM t)).keep o (λ_ _ h=>h)
theorem ahn{d s t u e sz bt N n k:Nat}{x:Operand}{X:TypeDesc}{z us:List ah}{f:List Value}{cs gC:List fb}(p:b6 n0 gl nt w G ρ lam a st)(S:o.dst=some d)(U:d<nt)
  (R:o.op=.call {callee:=.builtin .append,args:= #[.tmp s,x],argTypes:= #[t,u]}) (M:P.underlying t=some (.slice e)) (V:df P e=some sz) (gh:0<sz)
  (k4:bytesOf P e=some bt) (iQ:0<bt) (mn:N=140737488355328/bt) (aM:zeros P e=some z) (E:P.underlying u=some X) (kb:uc X=true)
  (xI:xG P w (a.eval x) sz k f) (lR:cu w G ρ f us) (xN:vz us=some gC) (mY:n+k<=N) (aj:st.aR s=.raw sz n cs)
  (hs:K ((st.set s .undef).set d (.raw sz (n+k) (cs++gC)))):o.wp P a w (cP n0 gl nt w G ρ K) Q:=by
 obtain⟨i,Y,hi,oo,sI,gw,_⟩:=om aM;have o6:i.bytes=bt:=aAP;have xJ:Y.cells.size=sz:=aAy;have oq:=by
  have:=aDi bt mY;rw[mn]at this;exact aDn this (aEN _ _)
 obtain⟨ad,rf,H,tY⟩:=xI;have sG:=rf w rfl;obtain rfl:=Jw xN;have ou:=p.rel.aR s;rw[aj]at ou;obtain⟨b,cap,c,ai,fz,l,h1,af,C,aZ,bN,cT,hK,gL,hX,lv⟩:=(show pT w G (.slot s) (a.tmps.getD s undef) sz n cs from ou);have ao:∀u,u∈l->u.oneCell'=true:=λu E=>by
  obtain⟨j,g,rfl⟩:=aDJ E;exact(hX j _ (aCB g)).2
 by_cases J:n+k<=cap
 .have Fk:0+n*sz+0+f.length<=c.size:=by
   have:(n+k)*sz<=cap*sz:=aDi _ J;grind
  obtain⟨c',L,xK,ug,sJ,sK,sL⟩:=B' (b:=b) (m:=0+n*sz) (us:=f) (k:=0) C Fk;rw[aDc]at L ug sJ sK sL;obtain⟨r,B,dN,Cd⟩:=Fb (w:=w) (L':=.slot d) (m':=0) hK (aCw 0) C L (λj g=>absurd g (aDs j)) (aEO xK.symm) sK sL p.rel.lt az7 az7 o5.1 o5.2;have uh:=aEn (P:=P) b (0+n*sz) f 0 w
   (λj g=>by
    rw[aDc,cell_of_block C];grind)
   (λj g=>by
    rw[aDc,tZ C];have:0+n*sz+j<c.size:=az6;grind)
   H
  have A:=xH (P:=P) (ty:=o.type) (n:=n) (m:=k) (cap:=cap) (base:=some ⟨b,0,none⟩) (w1:=w.setCells b (0+n*sz) f) M V E kb ad sG J
   (show(storeCells ((⟨b,0,none⟩:Addr).add _) f).run P w=_ by grind[Addr.add_mid])
  rw[<-h1]at A;refine gg (sM R A) ?_;have dn:b2 gl (w.setCells b (0+n*sz) f) (cK G b (some (.slot d,0))) ρ lam a.tmps (st.set s .undef):=by
   refine⟨λt=> ?_,?_,p.rel.nb,p.rel.ob.b0 r (λ_=>B _ az7) (λ_ _=>B _ az7),p.rel.eU.b0 r,Cd⟩
   .simp only[ag.set,dm];by_cases fK:t=s
    .simp[fK,if_true];exact .cz (.undef _)
    .simp only[fK,aCW];exact(p.rel.aR t).b0 r (λ_ _ h=>h) (λ_ _ h=>h) (B _ az9)
   .intro t cs au;obtain⟨aT,g1,g2⟩:=p.rel.bM t cs au;exact⟨aT,g1,dC.b0 r (λ_ _ h=>h) (B _ az7) (λj=>B _ az7) g2⟩
  refine oi dn p.eT p.sz U dN (λ_ _ h=>h) S (.mj ?_) hs;refine⟨b,cap,c',ai,fz,l++f,rfl,J,L,az9,az6,cT,iO _ _ _,?_,?_,?_⟩
  .grind
  .intro j v F;rcases aDo j l.length with g|g
   .grind
   .rw[aDp g]at F;refine⟨?_,H v (aC8 F)⟩;have:=sJ (j-l.length) v F;rw[show 0+n*sz+(j-l.length)=j by omega]at this;omega
  .rw[P0];exact(xM (lv.keep r (λ_ _ h=>h))).append (xM (lR.keep r (λ_ _ h=>h)))
 .have ay:cap<n+k:=by omega
  obtain⟨Z,w1,A,Fi,ig⟩:=zP (P:=P) (ty:=o.type) (base:=some ⟨b,0,none⟩) (n:=n) (olds:=l) (cap:=cap) (x:=a.eval x) M V hi o6 oo E kb ad rf (λb5 hw=>by
   simp[Builtin.firstCells];rw[<-gL];exact aEp (P:=P) b5 ⟨b,0,none⟩ l (λj v F=>by
    rw[aDv,aDl,cell_of_block (by rw[hw];omega)];simp_all)) ay iQ oq
  rw[<-h1]at A;have nO:(Builtin.zeroCells Y.cells (Z-(n+k))).toList.length=(Z-(n+k))*sz:=aAQ;exact gg (sM R A) (B9 (L0:=.slot d) (m:=0) p p.rel.drop ig az7 S U (.mj (show dp _ _ _ _ _ (.raw _ _ _)from P1 ig Fi gh gL tY nO (xM lv) lR ao H)) hs)
theorem pT.sj{L0:Loc}{n sz m:Nat}{v:Value}{cs:List fb}(h:pT w G L0 v sz m cs):
  ∃b cap,v=.slice (some ⟨b,0,none⟩) m cap/\m<=cap/\tP w b (0+cap*sz)/\∀ρ',dC w (da (fe L0 (.obj n)) G) ρ' b (.obj n) (.dk n) (jS cs):=by
 obtain⟨b,cap,c,E,k,u,h1,f,g,o,A,B,r,C,s,t⟩:=h;have z:m*sz<=cap*sz:=aDi _ f;refine⟨b,cap,h1,f,⟨c,E,k,g,az6⟩,λρ'=>⟨c,E,k,g,o,by rw[BX r,tS],?_,λj v x a p=> ?_⟩⟩
 .grind[cu.length]
 .have l:j<u.length:=by
   grind[cu.length]
  have d:=aCB l;have:=(s j _ d).1;rw[this]at a;simp at a;subst a;exact .cz ((xM (ρ':=ρ') t).get d p |>.keep (kz _) (λ_ _ h=>h))
theorem gK.snoc{L0:Loc}{s:aY}{n b:Nat}{ob:cc}(d:n=s.length)(h:∀q a o,ρ[q]?=some (a+1)->s[q]?=some o->ky w (da (fe L0 (.obj n)) G) (ρ++[b+1]) q a o)(c:ρ.length=s.length)
  (f:ky w (da (fe L0 (.obj n)) G) (ρ++[b+1]) n b ob):gK w (da (fe L0 (.obj n)) G) (ρ++[b+1]) (s++[ob]):=by
 refine⟨az9,λq a o aS g=> ?_⟩;grind
theorem b2.ahp{tmps:Array Value}{s sz m:Nat}{us:List fb}(h:b2 gl w G ρ lam tmps st)(H:st.aR s=.raw sz m us):
  ∃G' b,b2 gl w G' (ρ++[b+1]) lam tmps ({st with s:=st.s++[cc.box (jS us)]}.set s (.aP st.s.length 0 m m sz))/\Good w G w G'/\c7 w G' (ρ++[b+1]) (tmps.getD s undef) (.aP st.s.length 0 m m sz):=by
 have z:=by have:=h.aR s;rw[H]at this;exact this
 obtain⟨b,K,h1,r,u,p⟩:=z.sj (n:=st.s.length);have g:∀i k:Nat,ρ[i]?=some (k+1)->(ρ++[b+1])[i]?=some (k+1):=λi k F=>iP i _ F;have c:de w G w (da (fe (.slot s) (.obj st.s.length)) G):=kz _;have a:∀d,d≠.slot s->e5 d d w G w (da (fe (.slot s) (.obj st.s.length)) G):=λd B=>sv (q5 B);have E:c7 w (da (fe (.slot s) (.obj st.s.length)) G) (ρ++[b+1]) (tmps.getD s undef) (.aP st.s.length 0 m m sz):=by
  rw[h1];exact .aP _ _ _ _ _ _ _ aBB r (c.2.2 _ _ u)
 refine⟨_,b,⟨λt=> ?_,?_,h.nb,?_,h.eU.b0 c,sw h.lt⟩,q6 h.lt az7 az7,E⟩
 .simp only[ag.set,dm];by_cases l:t=s
  .simp_all[dq.cz]
  .simp only[l,aCW];exact(h.aR t).b0 c g (λ_ _ h=>h) (a _ az9)
 .intro t C au;obtain⟨f,J,v⟩:=h.bM t C au;exact⟨f,J,dC.b0 c g (a _ az7) (λj=>a _ az7) v⟩
 .exact gK.snoc rfl (λq f o aS A=>(h.ob.2 q f o aS A).b0 c g (a _ az7) (λj=>a _ az7)) h.ob.1 (p _)
theorem b2.xk{tmps:Array Value}{i j b:Nat}{s':aY}(h:b2 gl w G ρ lam tmps st)(hi:ρ[i]?=some (b+1))(a:aG.xk st.s i j=some s'):
  ∃G' ρ',b2 gl w G' ρ' lam tmps {st with s:=s'}/\Good w G w G'/\(∀i b:Nat,ρ[i]?=some b->ρ'[i]?=some b):=by
 unfold aG.xk at a;split at a
 .rename_i cs C;split at a
  .rename_i sz m us aI;simp at a;subst a;have F:=h.ob.at hi;rw[C]at F;obtain⟨c,E,X,g1,g2,g3,g4,g5⟩:=(show dC w G ρ b (.obj i) (.dk i) cs from F);have V:j<cs.length:=az9;have Y:cs[j]?=some (.raw sz m us):=az8;have J:j<c.size:=az6;have S:=PY C;have P:=g5 j c[j] _ (aDh J) Y;obtain⟨B,ad,h1,L,M,K⟩:=P.sj (n:=st.s.length);have p:∀i v:Nat,ρ[i]?=some (v+1)->(ρ++[B+1])[i]?=some (v+1):=λi v hi=>iP i _ hi;have f:de w G w (da (fe (.dk i j) (.obj st.s.length)) G):=kz _;have d:∀l,l≠.dk i j->e5 l l w G w (da (fe (.dk i j) (.obj st.s.length)) G):=λl R=>sv (q5 R);refine⟨_,ρ++[B+1],⟨λt=>(h.aR t).b0 f p (λ_ _ h=>h) (d _ az7),?_,h.nb,?_,h.eU.b0 f,sw h.lt⟩,q6 h.lt az7 az7,λi b h=>iP i _ h⟩
   .intro t U au;obtain⟨u,Z,N⟩:=h.bM t U au;exact⟨u,Z,dC.b0 f p (d _ az7) (λj=>d _ az7) N⟩
   .refine gK.snoc az7 (λq u o aS g=> ?_) aAN (K _);by_cases H:q=i
    .subst H;rw[aDf S]at g;simp at g;subst g;rw[hi]at aS;simp at aS;subst aS;refine⟨c,E,X,g1,g2,by grind[BX,q5],az8,λz v' Q r k=> ?_⟩;by_cases A:z=j
     .subst A;rw[aDf V]at k;simp at k;subst k;rw[aDh J]at r;simp at r;subst r;refine .cz ?_;rw[h1];exact .aP _ _ _ _ _ _ _ aBB L (f.2.2 _ _ M)
     .rw[aDb (aCP A)]at k;exact(g5 z v' Q r k).b0 f p (d _ az8)
    .rw[aDb (aCP H)]at g;exact(h.ob.2 q u o aS g).b0 f p (d _ az7) (λz=>d _ az8)
  .simp at a;subst a;exact⟨G,ρ,h,Good.refl h.lt,λ_ _ h=>h⟩
 simp_all
theorem b2.qZ{i:Nat}{tmps:Array Value}:∀{n j b:Nat} {s s':aY} {G:bL} {ρ:List Nat},ρ[i]?=some (b+1)->b2 gl w G ρ lam tmps {st with s:=s}->aG.qZ i s j n=some s'->
  ∃G' ρ',b2 gl w G' ρ' lam tmps {st with s:=s'}/\Good w G w G'/\(∀i b:Nat,ρ[i]?=some b->ρ'[i]?=some b)
 |0,_,_,s,s',G,ρ,_,h,he=>by
  grind[aG.qZ,Good.refl,lt]
 |n+1,j,b,s,s',G,ρ,hi,h,he=>by
  simp[aG.qZ]at he;split at he
  .rename_i s1 h1;obtain⟨l,m,c,g1,a⟩:=h.xk hi h1;obtain⟨g,f,d,g2,k⟩:=b2.qZ (s:=s1) (a _ _ hi) c he;exact⟨g,f,d,g1.trans g2,λi b h=>k i b (a i b h)⟩
  .simp at he
theorem ahq{d t:Nat}{x:Operand}{z:O}(p:b6 n0 gl nt w G ρ lam a st)(u:o.dst=some d)(A:d<nt)(J:o.op=.move x)(B:bW P t x=some z)
  (f:step (bA P gl) gl (.pL d z) st K):o.wp P a w (cP n0 gl nt w G ρ K) Q:=by
 have k:(execOp a.eval o).run P w=.ok (.value (a.eval x)) w:=aAq;rcases I4 B p.rel with⟨s,rfl,rfl⟩|⟨aq,_⟩
 .simp[step]at f;split at f
  .rename_i sz m us l;obtain⟨G',b,r,g1,j⟩:=p.rel.ahp l;exact gg k (oi r p.eT p.sz A g1 (λi b h=>iP i _ h) u (.cz j) f)
  .rename_i i off l;have j:=by have:=p.rel.aR s;rw[l]at this;exact this
   generalize F:a.tmps.getD s undef=v at j;cases j with
   |ptr _ _ b au=>
    split at f
    .rename_i cs H;split at f
     .rename_i L E;obtain⟨G',ρ',r,g1,C⟩:=b2.qZ (st:=st) au p.rel E;refine gg k (oi r p.eT p.sz A g1 C u ?_ f);show dq _ _ _ _ _ (a.tmps.getD s undef) _;rw[F];exact .cz (.ptr _ _ _ (C _ _ au))
     .exact f.elim
    .exact f.elim
  .exact p.value u A (v:=a.eval (.tmp s)) k (zH B p.rel) f
 .exfalso;cases z with
  |t s=>simp_all
  |c v=>exact f
  |g n=>exact f
theorem ahr{v:Value}{sz:Nat}(h:c7 w G ρ v (.own sz [])):∃a,v=.slice a 0 0:=by
 cases h;simp
theorem Jx{nw rw:Bool}{d s t u e sz bt b':Nat}{x:Operand}{br:O}{ad:TypeDesc}{t1:Nat}{z:List ah}(p:b6 n0 gl nt w G ρ lam a st)(R:o.dst=some d)(S:d<nt)
  (N:o.op=.call {callee:=.builtin .append,args:= #[.tmp s,x],argTypes:= #[t,u]}) (ai:bW P t1 x=some br) (M:P.underlying t=some (.slice e)) (U:df P e=some sz) (B:0<sz)
  (k4:bytesOf P e=some bt) (iQ:0<bt) (mn:b'=140737488355328/bt) (Z:zeros P e=some z) (V:P.underlying u=some ad) (X:uc ad=true)
  (c:hT (bA P gl) gl nw rw d s br sz b' st K):o.wp P a w (cP n0 gl nt w G ρ K) Q:=by
 obtain⟨B5,Y⟩:=dY ai p.rel;unfold hT at c;split at c
 .rename_i g l E;cases aq:(nw&&l.isEmpty)with
  |true=>
   rw[aq]at c;have aE:l=[]:=az8;subst aE;have ou:=p.rel.aR s;rw[E]at ou;obtain⟨F,J⟩:=ahr (show c7 w G ρ (a.tmps.getD s undef) (.own g [])from ou);split at c
   .rename_i ar A;obtain⟨vs,h1,j⟩:=Cb (P:=P) p.rel.ob Y A B;have jD:vs=[]:=by
     have:=h1.2.2.2;simp_all
    subst jD;have H:=xH (P:=P) (ty:=o.type) (n:=0) (m:=0) (cap:=0) (base:=F) (w1:=w) M U V X h1.1 (h1.2.1 w rfl) (aCw _) (by cases F<;>rfl);rw[<-J]at H;exact p.value R S (sM N H) (by rw[J];exact .cz (.nil _ _)) c
   .rename_i cs k hk A;cases rw with
    |true=>
     split at c
     rotate_left
     .exact c.elim
     rename_i gC aX;obtain⟨f,c⟩:=c;simp only[aCx]at f;obtain⟨C,r⟩:=f;obtain rfl:g=sz:=aCG C;have r:=aCM r;obtain⟨vs,h1,j⟩:=Cb (P:=P) p.rel.ob Y A B;obtain rfl:=Jw aX;obtain⟨i1,er,hi,oo,sI,gw,_⟩:=om Z;have o6:i1.bytes=bt:=aAP;have xJ:er.cells.size=g:=aAy;have oq:(0+k)*bt<=140737488355328:=by
      rw[aDl];have:=aDi bt r;rw[mn]at this;exact aDn this (aEN _ _)
     have o7:0<k:=az9;obtain⟨rh,w1,H,Fl,L⟩:=zP (P:=P) (ty:=o.type) (n:=0) (olds:=[]) (cap:=0) (base:=F) (x:=a.eval x) M U hi o6 oo V X h1.1 h1.2.1
      (λb5 _=>by
       cases F with
       |none=>rfl
       |some F=>simp[Builtin.firstCells,aDV];rfl) az6 iQ oq
     rw[<-J]at H;have nO:(Builtin.zeroCells er.cells (rh-(0+k))).toList.length=(rh-(0+k))*g:=aAQ;have jF:=P1 (G:=G) (ρ:=ρ) (d:=d) (n:=0) (cs:=[]) L Fl B az7 h1.2.2.2 nO .nil j az7 h1.2.2.1;rw[aDL]at jF;refine gg (sM N H) (B9 (L0:=.slot d) (m:=0) p p.rel L az7 R S (.mj (show dp _ _ _ _ _ (.raw g k gC)from ?_)) c);have bB:=aDl k;rw[bB]at jF;show pT _ _ _ (.slice _ (0+k) _) _ _ _;simp_all
    |false=>
     simp at c;obtain⟨f,c⟩:=c;simp only[aCx]at f;obtain⟨C,r⟩:=f;obtain rfl:g=sz:=aCG C;have r:=aCM r;obtain⟨vs,h1,j⟩:=Cb (P:=P) p.rel.ob Y A B;obtain⟨i1,er,hi,oo,sI,gw,_⟩:=om Z;have o6:i1.bytes=bt:=aAP;have xJ:er.cells.size=g:=aAy;have oq:(0+k)*bt<=140737488355328:=by
      rw[aDl];have:=aDi bt r;rw[mn]at this;exact aDn this (aEN _ _)
     have o7:0<k:=az9;obtain⟨rh,w1,H,Fl,L⟩:=zP (P:=P) (ty:=o.type) (n:=0) (olds:=[]) (cap:=0) (base:=F) (x:=a.eval x) M U hi o6 oo V X h1.1 h1.2.1
      (λb5 _=>by
       cases F with
       |none=>rfl
       |some F=>simp[Builtin.firstCells,aDV];rfl) az6 iQ oq
     rw[<-J]at H;have Fm:=L.keeps (G:=G) (L0:=.obj st.s.length) (n0:=0);have nO:(Builtin.zeroCells er.cells (rh-(0+k))).toList.length=(rh-(0+k))*g:=aAQ;have sN:(ρ++[w.heap.size+1])[st.s.length]?=some (w.heap.size+1):=aAz;have jF:=b2.zT (a:=a) (d:=d) (v:=.slice (some ⟨w.heap.size,0,none⟩) (0+k) rh) (x:=.aP st.s.length 0 k k g) (vo:=.box cs) p.rel L (aC2 S p.sz)
      (by
       refine⟨_,e,(0,0),L.new,az7,aAv,?_,λao v x J ai=> ?_⟩
       .rw[<-j.length,h1.2.2.2];simp only[aFo,aCF,aDL,h1.2.2.2];omega
       .rw[aDU,aDL]at J;have mo:ao<vs.length:=aAF;rw[aDj mo]at J;exact .cz ((j.get J ai).keep Fm (λi b h=>iP i _ h)))
      (by
       rw[aDl];refine .aP _ _ _ _ _ _ _ sN az6 ⟨_,e,(0,0),L.new,?_⟩;simp only[aFo,aCF,aDL,h1.2.2.2,nO];rw[<-aDx];simp_all)
     refine gg (sM N H) (lx p.eT (put_defers _ _ _) aAe _ (ρ++[w.heap.size+1]) lam _ ?_ (L.good p.rel.lt (L0:=.obj st.s.length) (n0:=0) az7) (λi b h=>iP i _ h) c);rw[R];exact jF
   .exact c.elim
  |false=>
   rw[aq]at c;simp at c;split at c
   .rename_i dz l2 A;obtain⟨f,c⟩:=c;simp only[aCx]at f;obtain⟨⟨C,r⟩,mY⟩:=f;obtain rfl:g=sz:=aCG C;obtain rfl:dz=g:=aCG r;obtain⟨us,h1,j,av⟩:=PT (P:=P) p.rel.ob Y A B;exact PU p R S N M U B k4 iQ mn Z V X h1 j av (aCM mY) E (.inl rfl) az9
   .exact c.elim
 .rename_i g n cs E;split at c
  .rename_i us k A;split at c
   .rename_i gC aX;obtain⟨f,c⟩:=c;simp only[aCx]at f;obtain rfl:g=sz:=aCG f.1;obtain⟨vs,h1,j⟩:=Cb (P:=P) p.rel.ob Y A B;exact ahn p R S N M U B k4 iQ mn Z V X h1 j aX (aCM f.2) E c
   .exact c.elim
  .exact c.elim
 .rename_i i off len cap g E;split at c
  .rename_i cs us k A aX;obtain⟨f,c⟩:=c;simp only[aCx]at f;obtain⟨C,r⟩:=f;obtain rfl:g=sz:=aCG C;obtain⟨vs,h1,j⟩:=Cb (P:=P) p.rel.ob Y aX B;exact ahj p R S N M U B k4 iQ mn Z V X h1 j (aCM r) E A c
  .exact c.elim
 .rename_i g E;split at c
  .rename_i dz l2 A;obtain⟨f,c⟩:=c;simp only[aCx]at f;obtain⟨⟨C,r⟩,mY⟩:=f;obtain rfl:g=sz:=aCG C;obtain rfl:dz=g:=aCG r;obtain⟨us,h1,j,av⟩:=PT (P:=P) p.rel.ob Y A B;exact PU (l:=[]) p R S N M U B k4 iQ mn Z V X h1 j av az8 E (.inr ⟨rfl,rfl⟩) (by
    cases l2 with
    |nil=>exact c
    |cons _ _=>exact c)
  .exact c.elim
 .exact c.elim
def aCX:=@Bool.not_eq_true'
def aDQ:=@List.length_drop
theorem P4{b k:Nat}(f:G b=some (.obj k,0)):de w G w (cK G b none):=by
 refine⟨λx g v a=>⟨a.1,λL n c=> ?_,a.2.2⟩,λx o d=>⟨?_,d.2⟩,λ_ _ h=>h⟩
 .simp only[dm]at c;split at c
  .simp_all
  .exact a.2.1 L n c
 .simp only[dm];split
  .rfl
  .exact d.1
theorem ahs{b k:Nat}(h:G b=some (.obj k,0)){L:Loc}(c:L≠.obj k):e5 L L w G w (cK G b none):=by
 intro x n a;refine⟨rfl,?_⟩;simp[dm];grind
theorem aht{b k:Nat}(c:∀b L n,G b=some (L,n)->b<w.heap.size)(h:G b=some (.obj k,0)):Good w G w (cK G b none) where
 size:=aCw _
 iN x _ ai:=by
  grind[dm]
 new x n ai a:=by
  grind[dm]
 old x n _ a:=by
  grind[dm]
 keep:=P4 h
 os:=rfl
 out:=rfl
theorem b2.pN{k:Nat}{y:D}{x:ah}{v:Value}{tmps:Array Value}(h:b2 gl w G ρ lam tmps st)(r:c7 w G ρ v x)(a:aG.pN st.s x=some (y,k)):
  ∃G',b2 gl w G' ρ lam tmps {st with s:=st.s.set k .dead}/\Good w G w G'/\Rd w G' v y:=by
 unfold aG.pN at a;split at a
 .rename_i o off len cap sz;cases r with
  |aP _ _ _ _ et _ H M iB tX=>
   have z:=h.ob.at M;split at a
   .rename_i bs uk;rw[uk]at z;have E:=z;cases c:(Nat.ble len cap&&Nat.blt 0 sz&&Nat.ble (off+len*sz) bs.length)with
    |false=>simp_all
    |true=>
     rw[c]at a;simp only[aCx]at c;have q9:=aCM c.1.1;have U:=aCM c.1.2;have Z:=aCM c.2;split at a
     .rename_i l B;cases p:l.all jt with
      |false=>simp_all
      |true=>
       rw[p]at a;simp at a;obtain⟨rfl,rfl⟩:=a;obtain⟨f1,_⟩:=Fg B;have K:l.length=len*sz:=az9;obtain⟨c1,R,S⟩:=Ff U len l K p;obtain⟨u,fw,V,Y⟩:=E.range Z;have kC:cw w G u l:=zF (LC:=λj=>.dk o (off+j)) (k:=0) az6 (λj v x r P=>by rw[aDl];exact Y j v x r P) B;obtain⟨_,_,_,_,_,g3,_,_⟩:=E;have m:=P4 (w:=w) g3;have f:∀{L:Loc},L≠.obj o->e5 L L w G w (cK G H none):=λC=>ahs g3 C;refine⟨cK G H none,⟨λt=>(h.aR t).b0 m (λ_ _ h=>h) (λ_ _ h=>h) (f az7),?_,h.nb,⟨aAN,?_⟩,h.eU.b0 m,?_⟩,aht h.lt g3,?_⟩
       .intro t X N;obtain⟨g,q1,Q⟩:=h.bM t X N;exact⟨g,q1,dC.b0 m (λ_ _ h=>h) (f az7) (λj=>f az7) Q⟩
       .intro q g ob aS d;have sO:q<st.s.length:=az9;by_cases A:q=o
        .subst A;rw[aDf sO]at d;simp at d;subst d;trivial
        .rw[aDb (aCP A)]at d;exact(h.ob.2 q g ob aS d).b0 m (λ_ _ h=>h) (f az9) (λj=>f az7)
       .intro g L ad n;simp only[dm]at n;split at n
        .grind
        .exact h.lt _ _ _ n
       .refine .list _ _ _ _ _ _ u R.symm (aDn q9 iB) S (λq ao F=>⟨V q ao F,λL ad C=> ?_,?_⟩) (by grind[cw.keep])
        .grind[dm]
        .have aS:q<u.length:=by
          grind
         have J:q<l.length:=az6;exact(kC.get F (aCB J)).E' (aCQ.1 p _ (aCC J))
     simp_all
   simp_all
 simp_all
theorem P6{b k d m:Nat}(h:G b=some (.obj k,0)):de w G w (cK G b (some (.slot d,m))):=by
 refine⟨λx g v a=>⟨a.1,λL n f=> ?_,a.2.2⟩,λx o c=>⟨?_,c.2⟩,λ_ _ h=>h⟩
 .by_cases e:x=b
  .subst e;have:=a.2.1 _ _ h;omega
  .simp[dm,aCV e]at f;exact a.2.1 L n f
 .have e:x≠b:=λe=>by have:=c.1;simp_all
  simp[dm,aCV e];exact c.1
theorem ahu{b k d m:Nat}(h:G b=some (.obj k,0)){L:Loc}(c:L≠.obj k):e5 L L w G w (cK G b (some (.slot d,m))):=by
 intro x n a;refine⟨rfl,?_⟩;have e:x≠b:=λe=>az8;simp_all[dm]
theorem ahv{b k d m:Nat}(c:∀b L n,G b=some (L,n)->b<w.heap.size)(h:G b=some (.obj k,0)):Good w G w (cK G b (some (.slot d,m))) where
 size:=aCw _
 iN x _ ai:=by
  have e:x≠b:=λe=>az8;simp_all[dm]
 new x n ai a:=by
  by_cases e:x=b
  .grind
  .simp[dm,aCV e]at a;grind
 old x n _ a:=by
  by_cases e:x=b;all_goals simp_all[dm]
 keep:=P6 h
 os:=rfl
 out:=rfl
theorem b2.ahw{k d:Nat}{y:D}{x:ah}{v:Value}{tmps:Array Value}(h:b2 gl w G ρ lam tmps st)(A:c7 w G ρ v x)(a:aG.pN st.s x=some (y,k)):
  ∃G' sz l,y=.list sz l/\b2 gl w G' ρ lam tmps {st with s:=st.s.set k .dead}/\Good w G w G'/\mh w G' (.slot d) v sz l:=by
 unfold aG.pN at a;split at a
 .rename_i u off len cap sz;cases A with
  |aP _ _ _ _ et _ B V iB tX=>
   have F:=h.ob.at V;split at a
   .rename_i bs uk;rw[uk]at F;have P:=F;cases f:(Nat.ble len cap&&Nat.blt 0 sz&&Nat.ble (off+len*sz) bs.length)with
    |false=>simp_all
    |true=>
     rw[f]at a;simp only[aCx]at f;have q9:=aCM f.1.1;have N:=aCM f.1.2;have ad:=aCM f.2;split at a
     .rename_i l J;cases z:l.all jt with
      |false=>simp_all
      |true=>
       rw[z]at a;simp at a;obtain⟨rfl,rfl⟩:=a;obtain⟨f1,_⟩:=Fg J;have U:l.length=len*sz:=az9;obtain⟨c1,M,c3⟩:=Ff N len l U z;obtain⟨C,fw,eY,fa⟩:=P.range ad;have kC:cw w G C l:=zF (LC:=λj=>.dk u (off+j)) (k:=0) az6 (λj v x A Y=>by rw[aDl];exact fa j v x A Y) J;obtain⟨c,E,fz,g1,g2,g3,g4,_⟩:=P;obtain⟨ay,ub,pY,Q,z2⟩:=tX;rw[g1]at Q;obtain⟨rfl,rfl,rfl⟩:=Q;have p:=P6 (w:=w) (d:=d) (m:=off+len*sz) g3;have n:∀{L:Loc},L≠.obj u->e5 L L w G w (cK G B (some (.slot d,off+len*sz))):=λK=>ahu g3 K;refine⟨cK G B (some (.slot d,off+len*sz)),sz,_,rfl,⟨λt=>(h.aR t).b0 p (λ_ _ h=>h) (λ_ _ h=>h) (n az7),?_,h.nb,⟨aAN,?_⟩,h.eU.b0 p,?_⟩,ahv h.lt g3,?_⟩
       .intro t ei X;obtain⟨o,q1,Z⟩:=h.bM t ei X;exact⟨o,q1,dC.b0 p (λ_ _ h=>h) (n az7) (λj=>n az7) Z⟩
       .intro q o ob aS g;have sO:q<st.s.length:=az9;by_cases H:q=u
        .subst H;rw[aDf sO]at g;simp at g;subst g;trivial
        .rw[aDb (aCP H)]at g;exact(h.ob.2 q o ob aS g).b0 p (λ_ _ h=>h) (n az9) (λj=>n az7)
       .intro o L ao r;simp[dm]at r;split at r
        .grind
        .exact h.lt _ _ _ r
       .refine⟨B,off,et,c,E,fz,C,by rw[M],az6,g1,g2,z2,N,by rw[iO,M],c3,λq ar R=>⟨eY q ar R,λL ao K=> ?_,?_⟩,by grind[cw.keep]⟩
        .grind[iO]
        .have aS:q<C.length:=by
          grind
         have S:q<l.length:=az6;exact(kC.get R (aCB S)).E' (aCQ.1 z _ (aCC S))
     simp_all
   simp_all
 simp_all
theorem b2.BL{i j b:Nat}{s':aY}{tmps:Array Value}(h:b2 gl w G ρ lam tmps st)(hi:ρ[i]?=some (b+1))(a:aG.BL st.s i j=some s'):
  ∃G',b2 gl w G' ρ lam tmps {st with s:=s'}/\Good w G w G':=by
 unfold aG.BL at a;split at a
 .rename_i cs K;split at a
  .rename_i k off len cap sz hk;split at a
   .rename_i y k1 u;cases P:Nat.beq k1 i with
    |true=>simp_all
    |false=>
     rw[P]at a;simp at a;subst a;have Y:k1≠i:=λe=>az8;have n:=h.ob.at hi;rw[K]at n;have B:=n;obtain⟨c,E,H,h1,A,S,R,C⟩:=B;have v:j<cs.length:=az9;have Q:cs[j]?=some (.aP k off len cap sz):=az8;have p:j<c.size:=az6;have M:=C j c[j] _ (aDh p) Q;have r:=M;obtain⟨G',d,g1,F⟩:=h.pN r u;refine⟨G',⟨d.aR,d.bM,d.nb,⟨aAN,?_⟩,d.eU,d.lt⟩,g1⟩;intro q z ob aS f;have sO:q<st.s.length:=az9;by_cases o:q=i
     .subst o;rw[aDf az8]at f;simp at f;subst f;rw[hi]at aS;simp at aS;subst aS;have L:=d.ob.2 q b (.box cs) hi az8;obtain⟨X,U,p0,m,Z,J,ow,ri⟩:=(show dC w G' ρ b (.obj q) (.dk q) cs from L);rw[h1]at m;obtain⟨rfl,rfl,rfl⟩:=m;refine⟨c,E,H,h1,A,J,az8,λN v' V l g=> ?_⟩;by_cases t:N=j
      .subst t;rw[aDf v]at g;simp at g;subst g;rw[aDh p]at l;simp at l;subst l;exact dp.cz (.d _ _ F)
      grind
     .rw[aDb (aCP o)]at f;exact d.ob.2 q z ob aS f
   simp_all
  .simp at a;subst a;exact⟨G,h,Good.refl h.lt⟩
 simp_all
theorem b2.tL{i b:Nat}{tmps:Array Value}(hi:ρ[i]?=some (b+1)):∀{n j:Nat} {s s':aY} {G:bL},b2 gl w G ρ lam tmps {st with s:=s}->aG.tL i s j n=some s'->
  ∃G',b2 gl w G' ρ lam tmps {st with s:=s'}/\Good w G w G'
 |0,_,s,s',G,h,he=>by
  grind[aG.tL,Good.refl,lt]
 |n+1,j,s,s',G,h,he=>by
  simp[aG.tL]at he;split at he
  .rename_i s1 h1;obtain⟨f,a,g1⟩:=h.BL hi h1;obtain⟨d,c,g2⟩:=b2.tL hi (s:=s1) a he;exact⟨d,c,g1.trans g2⟩
  .simp at he
theorem ahy{d t n J:Nat}{x:Operand}{j:O}(p:b6 n0 gl nt w G ρ lam a st)(A:o.dst=some d)(B:d<nt)(M:o.op=.load t x)(r:bW P J x=some j)
  (m:df P t=some n) (F:kW P t=some true) (c:step (bA P gl) gl (.aM d j n) st K):o.wp P a w (cP n0 gl nt w G ρ K) Q:=by
 obtain⟨R,f⟩:=dY r p.rel;simp[step]at c;split at c
 .rename_i i off u;rw[u]at f;have k:=f;cases C:a.eval x<;>rw[C]at k<;>cases k;rename_i b au;split at c
  .rename_i S l;obtain⟨G',g,E⟩:=b2.tL (st:=st) (s:=st.s) au p.rel l;split at c
   .rename_i cs L;obtain⟨z,c⟩:=c;have H:ky w G' ρ i b (.box cs):=by have:=g.ob.at au;simp_all
    obtain⟨v,N,dn⟩:=B6 (show dC w G' ρ b (.obj i) (.dk i) cs from H) (aCM z) m F (λh=>az9);refine gg (v:=v) ?_ (oi g p.eT p.sz B E (λ_ _ h=>h) A (.cz dn) c);grind[execOp,Sem.run_bind,Result.andThen_ok,Sem.run_pure]
   .exact c.elim
  .exact c.elim
 .exact c.elim
theorem ahz{d t:Nat}{own:Bool}{x:Operand}{u:O}(p:b6 n0 gl nt w G ρ lam a st)(g:o.dst=some d)(j:d<nt)(B:o.op=.assign x)(s:bW P t x=some u)
  (c:step (bA P gl) gl (.nH d own u) st K):o.wp P a w (cP n0 gl nt w G ρ K) Q:=by
 simp[step]at c;split at c
 .rename_i k off len cap sz A;split at c
  .rename_i y k1 n;obtain⟨C,r⟩:=dY s p.rel;rw[A]at r;have z:=r;cases own with
   |false=>
    obtain⟨G',f,g1,m⟩:=p.rel.pN z n;exact gg (v:=a.eval x) aAq (oi f p.eT p.sz j g1 (λ_ _ h=>h) g (.cz (.d _ _ m)) c)
   |true=>
    obtain⟨G',E,l,rfl,f,g1,m⟩:=p.rel.ahw (d:=d) z n;exact gg (v:=a.eval x) aAq (oi f p.eT p.sz j g1 (λ_ _ h=>h) g (.mj (.Pb m)) c)
  .exact c.elim
 .exact Pj p g j B s (by simp_all[step])
theorem ahA{A:Array Value}{d:Nat}{x y:Value}:(A.setIfInBounds d x).setIfInBounds d y=A.setIfInBounds d y:=az7
theorem ahB{d s t e sz:Nat}{lo:Operand}{A:O}(p:b6 n0 gl nt w G ρ lam a st)(Z:o.dst=some d)(J:d<nt)(Y:o.op=.slice t (.tmp s) (some lo) none none)(aE:bW P 0 lo=some A)
  (hu:P.underlying t=some (.slice e)) (M:df P e=some sz) (g:step (bA P gl) gl (.so d s sz A) st K):o.wp P a w (cP n0 gl nt w G ρ K) Q:=by
 simp[step]at g;split at g
 .rename_i z l k n C aC;obtain⟨B,g⟩:=g;simp only[aCx,aCA,aCX,List.isEmpty_eq_false_iff]at B;obtain⟨⟨⟨U,lT⟩,fk⟩,j⟩:=B;obtain rfl:z=sz:=aCG U;have au:=tW (P:=P) p (z:=some lo) (z':=some A) (dflt:=0) (n:=n) (by grind[og]) (by grind[bound]) lT;have L:=p.rel.take (aC2 J p.sz) (s:=s);have dN:=q6 (s:=.slot s) (d:=.slot d) p.rel.lt az7 az7;have u:=L.aR d;rw[C]at u;have ai:=aC2 J p.sz;have V:(a.tmps.setIfInBounds d (a.tmps.getD s undef)).getD d undef=a.tmps.getD s undef:=az8;have eC:((st.set s .undef).set d (.own z l)).aR d=.own z l:=by simp[ag.set,dm]
  rw[V,eC]at u;have zS:dp w (da (fe (.slot s) (.slot d)) G) ρ (.slot d) (a.tmps.getD s undef) (iL z l):=by rw[Cc j];exact u
  rcases zS.cases with hA|⟨vL,eO,H,hO⟩|⟨_,_,_,H,_⟩
  rotate_left 2
  .grind[Cc]
  .rw[Cc j]at hA;cases r:a.tmps.getD s undef<;>rw[r]at hA<;>cases hA;simp_all
  .obtain⟨rfl,rfl⟩:=Js (.inl rfl) ((Cc j).symm.trans H);obtain⟨b,f,cap,c,E,fz,vs,h1,S,X,R,bN,cT,hK,gL,hX,lv⟩:=hO.elim id λh=>absurd h.1 j;have F:n.toNat<=l.length:=az6;have ao:n.toNat*z<=cap*z:=aDi _ az6;have ad:(cap-n.toNat)*z=cap*z-n.toNat*z:=Nat.sub_mul _ _ _;have P2:n.toNat*z<=l.length*z:=aDi _ F;have jT:(l.length-n.toNat)*z=l.length*z-n.toNat*z:=Nat.sub_mul _ _ _;have rj:(l.drop n.toNat).length=l.length-n.toNat:=aDQ;have oj:=E0 (P:=P) (w:=w) (isSlice:=true) (len:=l.length) (cap:=cap) (lo:=some (a.eval lo)) (hi:=none) (mx:=none) (l:=n.toNat) (h:=l.length) (m:=cap) au (.inl ⟨rfl,rfl⟩) (.inl ⟨rfl,rfl⟩) F S (aCw _) az7;have sE:a.eval (.tmp s)=.slice (some ⟨b,f,none⟩) l.length cap:=h1;have dA:(execOp a.eval o).run P w=.ok (.value (.slice (if cap=n.toNat then some ⟨b,f,none⟩else some ((⟨b,f,none⟩:Addr).add (n.toNat*z))) (l.length-n.toNat) (cap-n.toNat))) w:=by
    simp[execOp,Y,sE,Instr.sliceAt,Instr.slice,aCD,eN hu,aCH,aDD,Option.map_none,oj,aCK,kA M]
   have nQ:mh w (da (fe (.slot s) (.slot d)) G) (.slot d) (.slice (some ⟨b,f+n.toNat*z,none⟩) (l.length-n.toNat) (cap-n.toNat)) z (l.drop n.toNat):=by
    refine⟨b,f+n.toNat*z,cap-n.toNat,c,E,fz,vs.drop (n.toNat*z),az7,az6,X,R,az6,cT,?_,λq aS=>gL q (List.mem_of_mem_drop aS),?_,?_⟩
    .grind
    .intro ar ay r;rw[aDP]at r;have:=hX _ _ r;grind
    simp_all[Ja,cw.drop]
   have fj:su w (da (fe (.slot s) (.slot d)) G) (.slot d) (.slice (if cap=n.toNat then some ⟨b,f,none⟩else some ((⟨b,f,none⟩:Addr).add (n.toNat*z))) (l.length-n.toNat) (cap-n.toNat)) z (l.drop n.toNat):=by
    by_cases az:cap=n.toNat
    .right;simp_all
    .left;simp_all[aDv]
   have v:=L.set (d:=d) (x:=iL z (l.drop n.toNat)) az8 (.mj (.zE fj));have N:((st.set s .undef).set d (.own z l)).set d (iL z (l.drop n.toNat))=(st.set s .undef).set d (iL z (l.drop n.toNat)):=by
    unfold ag.set;congr 1;grind[dm]
   rw[C,N]at v;rw[ahA]at v;refine gg dA (lx p.eT (put_defers _ _ _) aAe _ ρ lam _ (by rw[Z];exact v) dN (λ_ _ h=>h) g)
 .exact g.elim
theorem ahF{d s t e N:Nat}{x:Operand}{n:O}(p:b6 n0 gl nt w G ρ lam a st)(J:o.dst=some d)(L:d<nt)(H:o.op=.convert s t x)(E:bW P N x=some n)
  (A:P.underlying s=some .string) (R:P.underlying t=some (.slice e)) (B:P.underlying e=some (.int .u8))
  (j:step (bA P gl) gl (.gI d n) st K):o.wp P a w (cP n0 gl nt w G ρ K) Q:=by
 obtain⟨V,h1⟩:=dY E p.rel;simp[step]at j;split at j
 .rename_i q F;rw[F]at h1;obtain⟨f,S,rfl⟩:=h1.str;obtain⟨cap,z⟩:∃c,c=Question.cut (.appendCap f.size 0 e) (w.tape w.drawn (.appendCap f.size 0 e)):=⟨_,rfl⟩;have M:f.size<=cap:=by rw[z];exact Nat.le_add_right _ _
  let g:Array Value:=f.data.map λb=>.int .u8 b.toNat;let ob:Obj:=.cells (g++Array.replicate (cap-f.size) (Value.int .u8 0)) e (cap,cap+1);have U:(g++Array.replicate (cap-f.size) (Value.int .u8 0)).size=cap:=by
   simp[g,Array.size_append,Array.size_map,Array.size_replicate];simp_all
  have C:(execOp a.eval o).run P w=.ok (.value (.slice (some ⟨w.heap.size,0,none⟩) f.size cap)) {w with drawn:=w.drawn+1,heap:=w.heap.push ob}:=by
   simp only[execOp,H,S,convert,aCD,eN A,eN R,eN B,aCH,Conv.stringToBytes,run_choose,Question.forced,aDq,aCW,newRow,aFm,aCK,markStringish,run_shape];rw[<-z];have k:(World.shape? {w with drawn:=w.drawn+1,heap:=w.heap.push (.cells (g++Array.replicate (cap-f.size) (.int .u8 0)) e (0,0))} w.heap.size)=some (e,cap):=by
    grind[World.shape?]
   simp[g]at k;simp[k,aCH,run_freeze];unfold World.freeze;simp;grind
  have X:(g++Array.replicate (cap-f.size) (Value.int .u8 0))=⟨(f.data.toList.map λb=>Value.int .u8 b.toNat)++(List.replicate (cap-f.size) (.int .u8 0))⟩:=az9;have u:gD w (.cells ⟨(f.data.toList.map λb=>Value.int .u8 b.toNat)++(List.replicate (cap-f.size) (.int .u8 0))⟩ e (cap,cap+1)) {w with drawn:=w.drawn+1,heap:=w.heap.push ob}:=⟨az9,rfl,rfl⟩;refine gg C (B9 (L0:=.res) (m:=f.size) p p.rel u az7 J L (.cz (.d _ _ ?_)) j);have Y:(f.data.toList.map fO).flatMap D.cells=f.data.toList.map fO:=by
   generalize f.data.toList=q;induction q with
   |nil=>rfl
   |cons y ys ih=>simp[aDe,aDO,ih];rfl
  refine .list w.heap.size 0 _ cap 1 _ (f.data.toList.map λb=>Value.int .u8 b.toNat) az7 M ?_ ?_ ?_
  .intro d l;simp at l;obtain⟨y,_,rfl⟩:=l;rfl
  .exact PL u az7 (by
    intro v r;simp at r;obtain⟨y,_,rfl⟩:=r;rfl)
  .generalize f.data.toList=q;induction q with
   |nil=>exact .nil
   |cons y ys ih=>exact .cons _ _ _ _ (.int _ _) ih
 .exact j.elim
theorem P8:∀{l:List D} {s:List UInt8} {vs:List Value},nJ l=some s->cw w G vs (l.flatMap D.cells)->∃a:List Int,vs=a.map (Value.int .u8)/\a.map (λn=>UInt8.ofNat n.toNat)=s/\a.length=l.length
 |[],s,vs,h,c=>by
  simp[nJ,aCz]at h;subst h;cases c;simp
 |x::l,s,vs,h,c=>by
  cases x<;>first|(simp[nJ,reduceCtorEq]at h)|skip
  rename_i k n;cases k<;>first|(simp[nJ,reduceCtorEq]at h;done)|skip
  simp[nJ]at h;cases au:nJ l with
  |none=>simp[au]at h
  |some m=>
   simp[au,aCz]at h;subst h;have g:=c;cases g with
   |cons v _ j _ h1 d=>
    cases h1;obtain⟨a,rfl,rfl,f⟩:=P8 au d;exact⟨n::a,rfl,rfl,by simp[f]⟩
theorem ahG{d s t e S:Nat}{x:Operand}{z:O}(p:b6 n0 gl nt w G ρ lam a st)(u:o.dst=some d)(A:d<nt)(X:o.op=.convert s t x)(J:bW P S x=some z)
  (C:P.underlying s=some (.slice e)) (U:P.underlying t=some .string) (E:P.underlying e=some (.int .u8))
  (f:step (bA P gl) gl (.bs d z) st K):o.wp P a w (cP n0 gl nt w G ρ K) Q:=by
 obtain⟨Y,h1⟩:=dY J p.rel;simp[step]at f;split at f
 .rename_i sz l L;split at f
  .rename_i q aS;obtain⟨g,k,v1,iB,R⟩:=(h1.hJ L).slice;have V:=run_convert_bytes_string (P:=P) w s t e g l.length k C E U;by_cases B:l=[]
   .subst B;simp[nJ,aCz]at aS;subst aS;have au:(Conv.bytesToString (.slice g 0 k)).run P w=.ok (.string .empty) w:=by
     cases g with
     |none=>rfl
     |some g=>rfl
    refine p.value u A (v:=.string .empty) ?_ (.cz (.d _ _ (.str _ _ rfl))) f;grind[execOp,Sem.run_bind,Result.andThen_ok,Sem.run_pure]
   .obtain⟨b,m,vs,rfl,hw,M,F⟩:=R B;obtain⟨c,rfl,rfl,Z⟩:=P8 aS F;have H:(loadCells ⟨b,m,none⟩ l.length).run P w=.ok (c.map (Value.int .u8)).toArray w:=by
     have:=aEp (P:=P) w ⟨b,m,none⟩ (c.map (Value.int .u8)) (λj v N=>by rw[aDv];exact(M j v N).1);simp_all
    have au:=run_bytesToString (P:=P) w ⟨b,m,none⟩ l.length k c H;refine p.value u A (v:=.string (c.foldl (λr n=>r.push (UInt8.ofNat n.toNat)) ByteArray.empty)) ?_ (.cz (.d _ _ (.str _ _ ?_))) f
    .grind[execOp,Sem.run_bind,Result.andThen_ok,Sem.run_pure]
    .have:∀(c:List Int) (r:ByteArray),(c.foldl (λr n=>r.push (UInt8.ofNat n.toNat)) r).data.toList=r.data.toList++c.map (λn=>UInt8.ofNat n.toNat):=by
      intro c;induction c with
      |nil=>simp
      |cons n c ih=>
       simp_all
     simp_all
  .exact f.elim
 .exact f.elim
theorem P9(n m:Nat)(c:Bool)(g:∀(t:Nat) (ks:List Nat) (vs:List Value) (v:Value),kinds P n t=some ks->vs.length=ks.length->shaped P t vs v->(Instr.checkKey c m t v).run P w=.ok () w)(V:Array Value):
  ∀(a:List Field) (off:Nat) (ks:List Nat),sk P (kinds P n) a off=some ks->off+ks.length<=V.size->
   (forIn (m:=Sem) a PUnit.unit λf _=>do
    if f.name≠ "_" then Instr.checkKey c m f.type (<-part f.type V f.offset)
    pure (ForInStep.yield PUnit.unit)).run P w=.ok PUnit.unit w
 |[],_,_,_,_=>rfl
 |f::a,off,ks,h,aE=>by
  unfold sk at h;split at h
  .rename_i aq;obtain⟨s,o⟩:=aq;cases hk:kinds P n f.type with
   |none=>simp_all
   |some k1=>
    simp[hk]at h;cases d:sk P (kinds P n) a (off+k1.length)with
    |none=>simp_all
    |some k2=>
     simp only[d]at h;split at h
     .rename_i j;simp at h;subst h;simp at aE;obtain⟨l,p,k⟩:=B1 (off:=off) hk j V az6 (B2 hk) w;have r:=g f.type k1 _ l hk az9 k;have u:=P9 n m c g V a (off+k1.length) k2 d az6;simp_all
     simp_all
  simp_all
theorem Fq(a:Bool):∀(n m t:Nat) (ks:List Nat) (vs:List Value) (v:Value),kinds P n t=some ks->n<=m->vs.length=ks.length->shaped P t vs v->(Instr.checkKey a m t v).run P w=.ok () w
 |0,_,_,_,_,_,h,_,_,_=>by grind[kinds]
 |n+1,0,_,_,_,_,_,h,_,_=>absurd h az6
 |n+1,m+1,t,ks,vs,v,h,hm,aE,c=>by
  unfold kinds at h;cases aK:P.underlying t with
  |none=>simp_all
  |some desc=>
   simp[aK]at h;cases desc<;>simp only[reduceCtorEq,aCz]at h;case struct fs=>
    have g:gf P t=true:=aAE;unfold shaped at c;rw[aCT g]at c;split at h
    .have:=P9 n m a (λt ks vs v h1 d f=>Fq a n m t ks vs v h1 az6 d f) ⟨vs⟩ fs.toList 0 ks h az9;simp_all[Instr.checkKey,eN]
    simp_all
   all_goals
    simp_all[Instr.checkKey,eN]
theorem axb{ks:List Nat}{x y:D}{r:Bool}(a:cG ks x.cells y.cells=some r):True:=trivial
def vN(w:World)(G:bL)(ρ:List Nat)(mes:List MapEntry)(es:List (D×ah)):Prop:=hW (λe p=>Rd w G e.key p.1/\c7 w G ρ e.val p.2) mes es
theorem Fs{mes:Array MapEntry}{es:List (D×ah)}(a:mes.size=es.length)(h:∀(j:Nat) (e:MapEntry) (p:D×ah),mes[j]?=some e->es[j]?=some p->Rd w G e.key p.1/\c7 w G ρ e.val p.2):vN w G ρ mes.toList es:=by
 have key:∀(l:List MapEntry) (es:List (D×ah)),l.length=es.length->(∀(j:Nat) (e:MapEntry) (p:D×ah),l[j]?=some e->es[j]?=some p->Rd w G e.key p.1/\c7 w G ρ e.val p.2)->vN w G ρ l es:=by
  intro l;induction l with
  |nil=>intro es a _;cases es with|nil=>exact .nil|cons=>simp_all
  |cons e l ih=>
   intro es a h;cases es with
   |nil=>simp_all
   |cons p es=>exact .cons (h 0 e p rfl rfl) (ih es az9 λj e p h1 c=>h (j+1) e p az9 az9)
 grind
def foundAt(mes:List MapEntry)(i:Nat):Option Nat->Option (Nat×Value)
 |none=>none
 |some j=>(mes[j-i]?).map λe=>(j,e.val)
theorem Ch{aw:Bool}{ks:List Nat}{k:D}:∀{es:List (D×ah)} {i j:Nat},e4 aw ks k es i=some (some j)->i<=j/\j<i+es.length
 |[],i,j,h=>by grind[e4]
 |e::es,i,j,h=>by
  simp[e4]at h;cases a:fc aw e.1 with
  |false=>simp_all
  |true=>
   simp[a,aC0]at h;split at h
   .simp_all
   .have:=Ch h;grind
   simp_all
theorem P'{c:Nat}{ks:List Nat}{aw:Bool}{u:Value}{k:D}(g:kinds P 10 c=some ks)(f:gf P c=aw)(l:Rd w G u k)(d:fc aw k=true):
  ∀{mes:List MapEntry} {es:List (D×ah)} {i:Nat} {r:Option Nat},vN w G ρ mes es->e4 aw ks k es i=some r->(Instr.findAsking c u mes i).run P w=.ok (foundAt mes i r) w
 |[],_,i,r,h,a=>by
  cases h;simp[e4,aCz]at a;subst a;rfl
 |e::mes,_,i,r,h,a=>by
  cases h with
  |cons he h=>
   rename_i p es;simp[e4]at a;cases m:fc aw p.1 with
   |false=>simp_all
   |true=>
   simp[m,aC0]at a;cases aS:cG ks k.cells p.1.cells with
   |none=>simp_all
   |some b=>
    have n:=agp (P:=P) g f l he.1 d m aS;simp[aS]at a;cases b with
    |true=>
     simp at a;subst a;simp_all[Instr.findAsking,foundAt]
    |false=>
     have o:=P' g f l d h a;simp only[Instr.findAsking,aCD,n,aCH,aDq,aCW,o];congr 1;cases r with
     |none=>rfl
     |some j=>
      have s:=(Ch a).1;grind[foundAt]
theorem ahI{j:Nat}{ks:List Nat}{g:TypeDesc}{u v:Value}{x y:D}{r:Bool}(a:kinds P 10 j=some ks)(n:P.underlying j=some g)(z:gf P j=false)(f:Rd w G u x)(d:Rd w G v y)(t:fc false x=true)(o:fc false y=true)
  (c:cG ks x.cells y.cells=some r):Instr.sameNow g u v=some r:=by
 have l:x.cells=[x]:=by cases x<;>first|rfl|grind[fc]
 have m:y.cells=[y]:=by cases y<;>first|rfl|grind[fc]
 rw[l,m]at c;unfold kinds at a;simp[n]at a;cases g<;>simp at a;case bool=>
  subst a;obtain⟨p,q,rfl,rfl,rfl⟩:=EU c;cases f;cases d;rfl
 case int=>
  subst a;obtain⟨k,p,q,rfl,rfl,rfl⟩:=Pn c;cases f;cases d;simp[Instr.sameNow,Pl]
 case string=>
  subst a;obtain⟨p,q,rfl,rfl,rfl⟩:=Po c;cases f with|str s1 _ h1=>cases d with|str s2 _ s=>simp_all[Instr.sameNow,beq_toListBytes,aD1,zI]
 grind[gf]
theorem Qa{c:Nat}{ks:List Nat}{g:TypeDesc}{u:Value}{k:D}(m:kinds P 10 c=some ks)(d:P.underlying c=some g)(l:gf P c=false)(n:Rd w G u k)(f:fc false k=true):
  ∀{mes:List MapEntry} {es:List (D×ah)} {i:Nat} {r:Option Nat},vN w G ρ mes es->e4 false ks k es i=some r->Instr.findNow g u mes i=some (foundAt mes i r)
 |[],_,i,r,h,a=>by
  cases h;simp[e4,aCz]at a;subst a;rfl
 |e::mes,_,i,r,h,a=>by
  cases h with
  |cons he h=>
   rename_i p es;simp[e4]at a;cases o:fc false p.1 with
   |false=>simp_all
   |true=>
   simp[o,aC0]at a;cases aS:cG ks k.cells p.1.cells with
   |none=>simp_all
   |some b=>
    have s:=ahI (P:=P) m d l n he.1 f o aS;simp[aS]at a;cases b with
    |true=>
     simp at a;subst a;simp_all[Instr.findNow,foundAt]
    |false=>
     have t:=Qa m d l n f h a;simp only[Instr.findNow,s,t];cases r with
     |none=>rfl
     |some j=>
      have v:=(Ch a).1;grind[foundAt]
theorem vO{d:Nat}{ks:List Nat}{aw:Bool}{u:Value}{k:D}(j:kinds P 10 d=some ks)(g:gf P d=aw)(l:Rd w G u k)(f:fc aw k=true)
  {mes:List MapEntry} {es:List (D×ah)} {r:Option Nat} (h:vN w G ρ mes es) (a:e4 aw ks k es 0=some r):(Instr.findKey d u mes).run P w=.ok (foundAt mes 0 r) w:=by
 have c:∃desc,P.underlying d=some desc:=by
  grind[kinds]
 obtain⟨desc,c⟩:=c;unfold Instr.findKey;simp[aCD,eN c,aCH];cases aw with
 |false=>
  rw[Qa j c g l f h a];rfl
 |true=>
  have m:=P' j g l f h a;cases mes with
  |nil=>
   cases h;simp[e4,aCz]at a;subst a;rfl
  |cons e mes=>
   grind[Instr.findNow,gf,Instr.sameNow]
end
end Go.aG
