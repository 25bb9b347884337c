/- Part of many_said. -/
import Derived.Test.YtdfonihgkhbpcaaGreatDoorM1
set_option linter.defProp false
set_option maxRecDepth 100000
set_option maxHeartbeats 8000000
set_option linter.unusedSimpArgs false
set_option linter.unusedVariables false
namespace Go.aG
variable {p:Prop}
def aEk:=@Array.getElem?_push
def aDj:=@List.getElem?_append_left
def aFk:=@Option.bind_some
def aCM:=@Nat.le_of_ble_eq_true
theorem aAe(h:p:=by rw[jd];exact p.sz):p:=h
theorem aAv(h:p:=by rw[fQ,iO]):p:=h
theorem aA6(h:p:=by grind[World.cell?]):p:=h
theorem aA7(h:p:=by simp[h.ob.1]):p:=h
theorem aBg(h:p:=by simp_all[fQ,nK,Nat.ne_of_lt]):p:=h
theorem aBB(h:p:=by rw[<-h.ob.1];simp):p:=h
theorem aBC(h:p:=by simp_all[execOp,Instr.alloc,newVar,newRow,sD]):p:=h
theorem aBD(h:p:=by simp_all[execOp,Instr.box,newVar,newRow]):p:=h
theorem aBE(h:p:=by have:=p.rel.ob.at au;simp_all):p:=h
section
variable {P:Program}{gl:Nat->List D}{n0 nt:Nat}{a:Act}{w w':World}{G G':bL}{ρ ρ':List Nat}{lam lam':Nat->Option Nat}{st aU:ag}{K:ag->Prop}{o:Oper}{Q:Exit->Act->World->Prop}
theorem agF{b off:Nat}{v:Value}(h:w.cell? ⟨b,off,none⟩=some v):b<w.heap.size:=aA6
theorem zM{b off:Nat}(h:w'.heap[b]?=w.heap[b]?):w'.cell? ⟨b,off,none⟩=w.cell? ⟨b,off,none⟩:=aA6
theorem cell_of_block{b j:Nat}{c:Array Value}{E:TypeId}{fz:Nat×Nat}(h:w.heap[b]?=some (.cells c E fz)):w.cell? ⟨b,j,none⟩=c[j]?:=aA6
theorem tZ{b j:Nat}{c:Array Value}{E:TypeId}{fz:Nat×Nat}(h:w.heap[b]?=some (.cells c E fz)):w.frozen? ⟨b,j,none⟩=(decide (fz.1<=j)&&decide (j<fz.2)):=by
 grind[World.frozen?]
structure gD(w:World)(ob:Obj)(w':World):Prop where
 heap:w'.heap=w.heap.push ob
 os:w'.os=w.os:=by rfl
 out:w'.output=w.output:=by rfl
def fQ(w:World)(G:bL)(L:Loc)(n:Nat):bL:=cK G w.heap.size (some (L,n))
section
variable {ob:Obj}{L0:Loc}{n0:Nat}(hw:gD w ob w')(ay:∀b L n,G b=some (L,n)->b<w.heap.size)
include hw
theorem gD.old{b:Nat}(a:b<w.heap.size):w'.heap[b]?=w.heap[b]?:=by
 rw[hw.heap,aEk];grind
theorem gD.new:w'.heap[w.heap.size]?=some ob:=by rw[hw.heap,aEk];simp
theorem gD.size:w'.heap.size=w.heap.size+1:=by rw[hw.heap];simp
theorem gD.keeps:de w G w' (fQ w G L0 n0):=by
 refine⟨?_,?_,?_⟩;rotate_left 2
 .intro b n h;obtain⟨c,E,g,d,e⟩:=h;have a:=(aC'.1 d).1;exact⟨c,E,g,(hw.old a).trans d,e⟩
 .intro b j v h;have a:=agF h.1;refine⟨by rw[zM (hw.old a)];exact h.1,?_,h.2.2⟩;intro L n f;rw[fQ,nK _ _ (Nat.ne_of_lt a)]at f;exact h.2.1 _ _ f
 .intro b o h;obtain⟨i,e,d⟩:=h;have a:=(aC'.1 d).1;exact⟨aBg,e,(hw.old a).trans d⟩
include ay
theorem gD.same(L:Loc):e5 L L w G w' (fQ w G L0 n0):=λb n h=>by
 have a:=ay _ _ _ h;exact⟨hw.old a,aBg⟩
theorem gD.good(c:L0≠.foreign):Good w G w' (fQ w G L0 n0) where
 size:=by grind[size]
 iN b au _:=⟨hw.old au,aBg⟩
 new b n au a:=by
  rw[fQ,dm]at a;grind
 old b n au a:=aBg
 keep:=hw.keeps
 os:=hw.os
 out:=hw.out
theorem gD.lt:∀b L n,fQ w G L0 n0 b=some (L,n)->b<w'.heap.size:=λb L n h=>by
 rw[fQ,dm]at h;grind[size]
theorem gD.rel{tmps:Array Value}(h:b2 gl w G ρ lam tmps st):b2 gl w' (fQ w G L0 n0) ρ lam tmps st where
 aR t:=(h.aR t).b0 hw.keeps (λ_ _ h=>h) (λ_ _ h=>h) (hw.same ay _)
 bM t cs au:=by
  obtain⟨b,c,a⟩:=h.bM t cs au;exact⟨b,c,dC.b0 hw.keeps (λ_ _ h=>h) (hw.same ay _) (λ_=>hw.same ay _) a⟩
 nb:=h.nb
 ob:=h.ob.b0 hw.keeps (λ_=>hw.same ay _) (λ_ _=>hw.same ay _)
 eU:=h.eU.b0 hw.keeps
 lt:=hw.lt ay
end
theorem xB{cs:List ah}{vs:List Value}{L0:Loc}{LC:Nat->Loc}{E:TypeId}(a:gD w (.cells ⟨vs⟩ E) w')(b:cu w G ρ vs cs):
  dC w' (fQ w G L0 0) ρ w.heap.size L0 LC cs:=
 ⟨⟨vs⟩,E,(0,0),a.new,az7,aAv,aAF,λj v x d c=>.cz ((b.get az8 c).keep a.keeps λ_ _ h=>h)⟩
theorem b2.newLocal{d:Nat}{cs:List ah}{vs:List Value}{E:TypeId}(h:b2 gl w G ρ lam a.tmps st)(j:gD w (.cells ⟨vs⟩ E) w')(k:cu w G ρ vs cs)(i:d<a.tmps.size)(l:st.bM d=none):
  b2 gl w' (fQ w G (.sr d) 0) ρ (cK lam d (some w.heap.size)) (a.tmps.setIfInBounds d (.pointer (some ⟨w.heap.size,0,none⟩))) ((st.eg d cs).set d (.dw d 0)):=by
 have g:∀t b,lam t=some b->cK lam d (some w.heap.size) t=some b:=by
  grind[nK,nb]
 have c:=j.rel (L0:=.sr d) (n0:=0) h.lt h;refine b2.set (st:=st.eg d cs) ⟨λt=> ?_,?_,?_,c.ob,c.eU,c.lt⟩ i ⟨w.heap.size,iO _ _ _,rfl⟩
 .exact(c.aR t).b0 (de.refl _ _) (λ_ _ h=>h) g (λb n h=>⟨rfl,h⟩)
 .intro t m e;simp[ag.eg,dm]at e;by_cases f:t=d
  .subst f;grind[iO,xB]
  .grind[bM]
 .intro t e;simp[ag.eg,dm]at e;by_cases f:t=d
  .simp_all
  .grind[nK,nb]
theorem E2{a:Type}{l:List a}{x y:a}{i:Nat}(h:(l++[x])[i]?=some y):l[i]?=some y\/(i=l.length/\x=y):=az9
theorem b2.newObj{d:Nat}{cs:List ah}{vs:List Value}{E:TypeId}(h:b2 gl w G ρ lam a.tmps st)(g:gD w (.cells ⟨vs⟩ E) w')(k:cu w G ρ vs cs)(q:d<a.tmps.size):
  b2 gl w' (fQ w G (.obj st.s.length) 0) (ρ++[w.heap.size+1]) lam (a.tmps.setIfInBounds d (.pointer (some ⟨w.heap.size,0,none⟩))) ({st with s:=st.s++[cc.box cs]}.set d (.ptr st.s.length 0)):=by
 have f:∀i b:Nat,ρ[i]?=some (b+1)->(ρ++[w.heap.size+1])[i]?=some (b+1):=az9;have c:=g.rel (L0:=.obj st.s.length) (n0:=0) h.lt h;have A:=g.keeps (G:=G) (L0:=.obj st.s.length) (n0:=0);refine b2.set (st:={st with s:=st.s++[cc.box cs]}) ⟨λt=> ?_,?_,c.nb,⟨aA7,?_⟩,c.eU,c.lt⟩ q (.cz (.ptr _ _ _ aBB))
 .exact(c.aR t).b0 (de.refl _ _) f (λ_ _ h=>h) (λb n h=>⟨rfl,h⟩)
 .intro t v l;obtain⟨b,x,m⟩:=c.bM t v l;exact⟨b,x,dC.b0 (de.refl _ _) f (λb n h=>⟨rfl,h⟩) (λj b n h=>⟨rfl,h⟩) m⟩
 .intro i b o p e;rcases E2 p with u|⟨hi,z⟩
  .have r:i<st.s.length:=by
    rw[<-h.ob.1];grind
   rw[aDj r]at e;exact(c.ob.2 i b o u e).b0 (de.refl _ _) f (λb n h=>⟨rfl,h⟩) (λj b n h=>⟨rfl,h⟩)
  .obtain rfl:w.heap.size=b:=by omega
   have y:i=st.s.length:=by rw[<-h.ob.1];omega
   subst y;simp at e;subst e;exact dC.b0 (de.refl _ _) f (λb n h=>⟨rfl,h⟩) (λj b n h=>⟨rfl,h⟩) (xB (LC:=.dk st.s.length) g k)
theorem om{t:Nat}{z:List ah}(h:zeros P t=some z):∃i v,P.info? t=some i/\i.zero=some v/\v.cells.size=z.length/\i.size=z.length/\∀{w G ρ},cu w G ρ v.cells.toList z:=by
 unfold zeros at h;simp at h;cases h1:oY P 20 t with
 |none=>simp_all
 |some cs=>
  cases c:P.info? t with
  |none=>simp_all
  |some i=>
   cases b:i.zero with
   |none=>simp_all
   |some v=>
    simp only[h1,c,b,aFk]at h;split at h
    .rename_i a;simp at h;subst h;simp only[aCx,aCA]at a;exact⟨i,v,rfl,b,a.1.1,a.1.2,I1 az8 a.2⟩
    simp_all
theorem sD{t:Nat}{i:TypeInfo}{v:Value}(h:P.info? t=some i)(a:i.zero=some v)(w:World):(zeroValue t).run P w=.ok v w:=by
 simp_all[zeroValue,typeInfo]
theorem agH{d e:Nat}{z:List ah}(p:b6 n0 gl nt w G ρ lam a st)(k:o.dst=some d)(l:d<nt)(r:o.op=.alloc e)(g:zeros P e=some z)
  (b:step (bA P gl) gl (.ll d z) st K):o.wp P a w (cP n0 gl nt w G ρ K) Q:=by
 obtain⟨i,v,s,n,q,m,j⟩:=om g;simp[step]at b;split at b
 .rename_i au;have f:(execOp a.eval o).run P w=.ok (.value (.pointer (some ⟨w.heap.size,0,none⟩))) {w with heap:=w.heap.push (.cells v.cells e)}:=aBC;have c:gD w (.cells ⟨v.cells.toList⟩ e) {w with heap:=w.heap.push (.cells v.cells e)}:=⟨rfl,rfl,rfl⟩;refine gg f (lx p.eT (put_defers _ _ _) aAe _ ρ (cK lam d (some w.heap.size)) _ ?_ (c.good p.rel.lt (L0:=.sr d) (n0:=0) az7) (λ_ _ h=>h) b);rw[k];exact p.rel.newLocal c j (aC2 l p.sz) au
 .exact b.elim
theorem agI{d e:Nat}{z:List ah}(p:b6 n0 gl nt w G ρ lam a st)(h:o.dst=some d)(j:d<nt)(q:o.op=.alloc e)(f:zeros P e=some z)
  (k:step (bA P gl) gl (.bn d z) st K):o.wp P a w (cP n0 gl nt w G ρ K) Q:=by
 obtain⟨i,v,r,m,n,l,g⟩:=om f;have c:(execOp a.eval o).run P w=.ok (.value (.pointer (some ⟨w.heap.size,0,none⟩))) {w with heap:=w.heap.push (.cells v.cells e)}:=aBC;have b:gD w (.cells ⟨v.cells.toList⟩ e) {w with heap:=w.heap.push (.cells v.cells e)}:=⟨rfl,rfl,rfl⟩;refine gg c (lx p.eT (put_defers _ _ _) aAe _ (ρ++[w.heap.size+1]) lam _ ?_ (b.good p.rel.lt (L0:=.obj st.s.length) (n0:=0) az7) iP k);rw[h];exact p.rel.newObj b g (aC2 j p.sz)
theorem c7.cells{v:Value}{x:ah}{n:Nat}(h:c7 w G ρ v x)(u:(cellsOf x).all (eo n)=true):cu w G ρ v.cells.toList (cellsOf x):=by
 cases h with
 |undef v=>grind[cellsOf,eo]
 |agg vs cs h=>exact h
 |d v y h=>
  cases h with
  |agg vs cs h=>exact h.ER
  |bool b=>exact .cons _ _ _ _ (.d _ _ (.bool b)) .nil
  |int k n=>exact .cons _ _ _ _ (.d _ _ (.int k n)) .nil
  |str s l h=>exact .cons _ _ _ _ (.d _ _ (.str s l h)) .nil
  |dJ=>exact .cons _ _ _ _ (.d _ _ .dJ) .nil
  |h9=>exact .cons _ _ _ _ (.d _ _ .h9) .nil
  |lL=>exact .cons _ _ _ _ (.d _ _ .lL) .nil
  |iK=>exact .cons _ _ _ _ (.d _ _ .iK) .nil
  |fn f=>exact .cons _ _ _ _ (.d _ _ (.fn f)) .nil
  |iface t v x h=>exact .cons _ _ _ _ (.d _ _ (.iface t v x h)) .nil
  |kZ a c s=>exact .cons _ _ _ _ (.d _ _ (.kZ a c s)) .nil
  |list b off n cap sz l vs h1 e j g p=>exact .cons _ _ _ _ (.d _ _ (.list b off n cap sz l vs h1 e j g p)) .nil
  |e2 b base off vs cs h1 e=>exact .cons _ _ _ _ (.d _ _ (.e2 b base off vs cs h1 e)) .nil
  |ix t v=>exact .cons _ _ _ _ (.d _ _ (.ix t v)) .nil
  |lM b q r aGH m ks vs h1 e j g=>exact .cons _ _ _ _ (.d _ _ (.lM b q r aGH m ks vs h1 e j g)) .nil
 |nil a sz=>exact .cons _ _ _ _ (.nil _ _) .nil
 |ptr i off b h=>exact .cons _ _ _ _ (.ptr _ _ _ h) .nil
 |map i b h=>exact .cons _ _ _ _ (.map _ _ h) .nil
 |aP i off len cap z sz b h o aM=>exact .cons _ _ _ _ (.aP _ _ _ _ _ _ _ h o aM) .nil
 |func f A cs a c h1 e=>exact .cons _ _ _ _ (.func _ _ _ _ _ h1 e) .nil
 |tuple vs cs h=>exact .cons _ _ _ _ (.tuple _ _ h) .nil
 |f' i l h=>exact .cons _ _ _ _ (.f' _ _ h) .nil
theorem agJ{v:Value}{x:ah}{L:Loc}{n:Nat}(h:dq w G ρ lam L v (snap x))(c:(cellsOf (snap x)).all (eo n)=true):c7 w G ρ v (snap x):=by
 rcases h.cases with h|⟨t,off,b,e,h1,a⟩
 .have:=h.snap;have d:snap (snap x)=snap x:=by cases x<;>rfl
  simp_all
 grind[cellsOf,eo]
theorem E4{v:Value}{x:ah}{L:Loc}{n:Nat}(h:dq w G ρ lam L v x)(a:(cellsOf (gT x)).all (eo n)=true):c7 w G ρ v (gT x):=by
 unfold gT at a⊢;split at a
 .exact h
 .exact agJ (h.snap (L':=.res)) a
theorem agK{d e n s:Nat}{x:Operand}{f:O}(p:b6 n0 gl nt w G ρ lam a st)(l:o.dst=some d)(m:d<nt)(u:o.op=.box e x)(j:bW P s x=some f)
  (b:step (bA P gl) gl (.fV d f n) st K):o.wp P a w (cP n0 gl nt w G ρ K) Q:=by
 simp[step]at b;split at b
 .rename_i au;obtain⟨c,b⟩:=b;simp only[aCx]at c;obtain⟨t,r⟩:=dY j p.rel;have q:=E4 r c.2;have k:=q.cells c.2;have i:(execOp a.eval o).run P w=.ok (.value (.pointer (some ⟨w.heap.size,0,none⟩))) {w with heap:=w.heap.push (.cells (a.eval x).cells e)}:=aBD;have g:gD w (.cells ⟨(a.eval x).cells.toList⟩ e) {w with heap:=w.heap.push (.cells (a.eval x).cells e)}:=⟨rfl,rfl,rfl⟩;refine gg i (lx p.eT (put_defers _ _ _) aAe _ ρ (cK lam d (some w.heap.size)) _ ?_ (g.good p.rel.lt (L0:=.sr d) (n0:=0) az7) (λ_ _ h=>h) b);rw[l];exact p.rel.newLocal g k (aC2 m p.sz) au
 .exact b.elim
theorem agL{d e n r:Nat}{x:Operand}{f:O}(p:b6 n0 gl nt w G ρ lam a st)(k:o.dst=some d)(l:d<nt)(t:o.op=.box e x)(i:bW P r x=some f)
  (c:step (bA P gl) gl (.au d f n) st K):o.wp P a w (cP n0 gl nt w G ρ K) Q:=by
 obtain⟨b,c⟩:=c;simp only[aCx]at b;obtain⟨s,q⟩:=dY i p.rel;have m:=E4 q b.2;have j:=m.cells b.2;have h:(execOp a.eval o).run P w=.ok (.value (.pointer (some ⟨w.heap.size,0,none⟩))) {w with heap:=w.heap.push (.cells (a.eval x).cells e)}:=aBD;have g:gD w (.cells ⟨(a.eval x).cells.toList⟩ e) {w with heap:=w.heap.push (.cells (a.eval x).cells e)}:=⟨rfl,rfl,rfl⟩;refine gg h (lx p.eT (put_defers _ _ _) aAe _ (ρ++[w.heap.size+1]) lam _ ?_ (g.good p.rel.lt (L0:=.obj st.s.length) (n0:=0) az7) iP c);rw[k];exact p.rel.newObj g j (aC2 l p.sz)
theorem dC.range{b:Nat}{L:Loc}{LC:Nat->Loc}{cs:List ah}(h:dC w G ρ b L LC cs){off n:Nat}(e:off+n<=cs.length):
  ∃vs:List Value,vs.length=n/\w.rangeAt b off vs/\∀j v x,vs[j]?=some v->((cs.drop off).take n)[j]?=some x->dp w G ρ (LC (off+j)) v x:=by
 obtain⟨c,E,i,k,d,f,a,g⟩:=h;refine⟨(c.toList.drop off).take n,az9,?_,?_⟩
 .intro j v l;grind[cell_of_block]
 grind
theorem B6{b off t n:Nat}{a:Bool}{L:Loc}{LC:Nat->Loc}{cs:List ah}(h:dC w G ρ b L LC cs)(l:off+n<=cs.length)(i:df P t=some n)(u:kW P t=some a)(o:a=false->n=1):
  ∃v,(Instr.loadAt t (.pointer (some ⟨b,off,none⟩))).run P w=.ok v w/\c7 w G ρ v (valOf cs off n a):=by
 obtain⟨c,f,e,g⟩:=h.range l;have q:(P.info? t).map (·.size)=some c.length:=by rw[f];exact i
 cases a with
 |true=>
  have:∃d,P.underlying t=some d/\d.isRow=true:=by
   grind[kW]
  obtain⟨d,p,m⟩:=this;refine⟨.agg c.toArray,run_loadAt_mid w b off t c d e p m q,?_⟩;exact ES (LC:=λj=>LC (off+j)) az9 g
 |false=>
  obtain rfl:=o rfl;obtain⟨v,rfl⟩:=List.length_eq_one_iff.1 f;refine⟨v,?_,?_⟩
  .have s:=e 0 v rfl;simp_all[Instr.loadAt,Instr.sureAddr,loadVar,xr]
  .have r:cs[off]?=some (cs.getD off .undef):=by grind
   have k:((cs.drop off).take 1)[0]?=some (cs.getD off .undef):=az9;exact(g 0 v (cs.getD off .undef) rfl k).snap
theorem agM{d t s off n L:Nat}{e:Bool}{x:Operand}{i:O}(p:b6 n0 gl nt w G ρ lam a st)(y:o.dst=some d)(A:d<nt)(M:o.op=.load t x)(q:bW P L x=some i)
  (m:df P t=some n) (E:kW P t=some e) (J:e=false->n=1) (c:step (bA P gl) gl (.ia d i s off n e) st K):o.wp P a w (cP n0 gl nt w G ρ K) Q:=by
 obtain⟨S,f⟩:=dY q p.rel;simp[step]at c;split at c
 .rename_i j B cs r k;obtain⟨g,c⟩:=c;simp only[aCx]at g;obtain⟨⟨l,z⟩,u⟩:=g;obtain rfl:j=s:=aCG l;obtain rfl:B=off:=aCG z;rw[r]at f;obtain⟨b,h,U⟩:=f;obtain⟨N,F,H⟩:=p.rel.bM j cs k;rw[F]at h;simp at h;obtain⟨v,R,C⟩:=B6 H (aCM u) m E J;refine p.value y A (v:=v) ?_ (.cz C) c;grind[execOp,Sem.run_bind,Result.andThen_ok,Sem.run_pure]
 .exact c.elim
theorem gK.at{s:aY}(h:gK w G ρ s){i b:Nat}(hi:ρ[i]?=some (b+1)):ky w G ρ i b (s.getD i .dead):=by
 have a:i<s.length:=by
  rw[<-h.1];grind
 exact h.2 i b _ hi az8
theorem agN{b base off t n:Nat}{a:Bool}{vs:List Value}{cs:List D}(f:jc w G b base vs)(e:cw w G vs cs)(r:off+n<=cs.length)(g:df P t=some n)(s:kW P t=some a)(k:a=false->n=1):
  ∃v,(Instr.loadAt t (.pointer (some ⟨b,base+off,none⟩))).run P w=.ok v w/\Rd w G v (cond a (.agg ((cs.drop off).take n)) (cs.getD off .dJ)):=by
 have q:=e.length;have o:=λj v c=>(f.sub off n j v c).1;have l:((vs.drop off).take n).length=n:=az9;cases a with
 |true=>
  have:∃d,P.underlying t=some d/\d.isRow=true:=by
   grind[kW]
  obtain⟨d,m,i⟩:=this;exact⟨.agg ((vs.drop off).take n).toArray,run_loadAt_mid w b _ t _ d o m i (by rw[l];exact g),.agg _ _ ((e.drop off).take n)⟩
 |false=>
  obtain rfl:=k rfl;have h:off<vs.length:=az6;have c:=aCB h;have p:=(f off _ c).1;refine⟨vs[off],?_,e.get c az9⟩;simp_all[Instr.loadAt,Instr.sureAddr,loadVar,xr]
theorem agO{d t n H:Nat}{h:Bool}{x:Operand}{q:O}(p:b6 n0 gl nt w G ρ lam a st)(m:o.dst=some d)(r:d<nt)(L:o.op=.load t x)(A:bW P H x=some q)
  (l:df P t=some n) (u:kW P t=some h) (y:h=false->n=1) (c:step (bA P gl) gl (.aE d q n h) st K):o.wp P a w (cP n0 gl nt w G ρ K) Q:=by
 obtain⟨M,f⟩:=dY A p.rel;simp[step]at c;split at c
 .rename_i i off g;rw[g]at f;have z:=f;cases j:a.eval x<;>rw[j]at z<;>cases z;rename_i b au;split at c
  .rename_i cs J;obtain⟨e,c⟩:=c;simp only[aCx]at e;replace e:=e.1;have E:ky w G ρ i b (.box cs):=aBE;obtain⟨v,C,k⟩:=B6 (show dC w G ρ b (.obj i) (.dk i) cs from E) (aCM e) l u y;refine p.value m r (v:=v) ?_ (.cz k) c;grind[execOp,Sem.run_bind,Result.andThen_ok,Sem.run_pure]
  .exact c.elim
 .rename_i cs off g;rw[g]at f;have s:=f.je;cases j:a.eval x<;>rw[j]at s<;>cases s;rename_i b base vs B F;obtain⟨e,c⟩:=c;obtain⟨v,C,k⟩:=agN B F (aCM e) l u y;refine p.value m r (v:=v) ?_ (.cz (.d _ _ k)) c;grind[execOp,Sem.run_bind,Result.andThen_ok,Sem.run_pure]
 .exact c.elim
def aEl:=@Array.getElem?_modify
def aDs:=@Nat.not_lt_zero
def aFl:=@Array.getElem?_setIfInBounds
def aDf:=@List.getElem?_set_self
def aDb:=@List.getElem?_set_ne
def aEm:=@List.ext_getElem?
def aEn:=@Go.run_storeCells_cells
def aDc:=@Nat.add_zero
theorem aAN(h:p:=by simpa using h.ob.1):p:=h
theorem aBF(h:p:=by have:=h.ob.at hi;rwa [au]at this):p:=h
theorem zN{b off a:Nat}{u:Value}(h:a≠b):(w.setCell ⟨b,off,none⟩ u).heap[a]?=w.heap[a]?:=by
 simp_all[World.setCell,aEl,aCP]
theorem Jd{b off:Nat}{u:Value}{c:Array Value}{E:TypeId}{fz:Nat×Nat}(h:w.heap[b]?=some (.cells c E fz)):(w.setCell ⟨b,off,none⟩ u).heap[b]?=some (.cells (c.setIfInBounds off u) E fz):=by
 grind[World.setCell]
theorem Je{b off:Nat}{u:Value}:(w.setCell ⟨b,off,none⟩ u).heap.size=w.heap.size:=az7
section
variable {b off:Nat}{u:Value}{L0:Loc}(dh:G b=some (L0,0))
include dh
theorem B7:de w G (w.setCell ⟨b,off,none⟩ u) G:=by
 refine⟨?_,?_,?_⟩;rotate_left 2
 .intro d n h;obtain⟨c,E,g,e,f⟩:=h;by_cases a:d=b
  .subst a;exact⟨_,E,g,Jd e,az8⟩
  .exact⟨c,E,g,(zN a).trans e,f⟩
 .intro d j v h;have a:d≠b:=by rintro rfl;exact absurd (h.2.1 _ _ dh) (aDs _)
  exact⟨by rw[zM (zN a)];exact h.1,h.2⟩
 .intro d o h;obtain⟨i,f,e⟩:=h;have a:d≠b:=az9;exact⟨i,f,(zN a).trans e⟩
theorem E5{L:Loc}(c:L≠L0):e5 L L w G (w.setCell ⟨b,off,none⟩ u) G:=by
 intro a n h;have d:a≠b:=az9;grind[zN]
theorem PB(d:L0≠.foreign)(a:∀b L n,G b=some (L,n)->b<w.heap.size):Good w G (w.setCell ⟨b,off,none⟩ u) G where
 size:=az7
 iN c _ h:=by
  have e:c≠b:=az9;grind[zN]
 new b n au dh:=absurd (a _ _ _ dh) (aDT.2 au)
 old _ _ _ h:=h
 keep:=B7 dh
 os:=rfl
 out:=rfl
end
theorem dC.write{b off:Nat}{u:Value}{x:ah}{L:Loc}{LC:Nat->Loc}{cs:List ah}(h:dC w G ρ b L LC cs)(i:dp w G ρ (LC off) u x)(g:∀j,LC j≠L):
  dC (w.setCell ⟨b,off,none⟩ u) G ρ b L LC (cs.set off x):=by
 obtain⟨c,E,m,n,p,e,o,l⟩:=h;refine⟨c.setIfInBounds off u,E,m,Jd n,az8,e,az8,?_⟩;intro j v y a d;by_cases f:j=off
 .subst f;have k:j<cs.length:=az9;rw[aFl]at a;simp only[if_true,show j<c.size by omega]at a;simp at a;rw[aDf k]at d;simp at d;subst a;subst d;exact i.b0 (B7 e) (λ_ _ h=>h) (E5 e (g _))
 .rw[Array.getElem?_setIfInBounds_ne (aCP f)]at a;rw[aDb (aCP f)]at d;exact(l j v y a d).b0 (B7 e) (λ_ _ h=>h) (E5 e (g _))
theorem b2.Jf{tmps:Array Value}{t b off:Nat}{u:Value}{x:ah}{cs:List ah}(h:b2 gl w G ρ lam tmps st)(o:st.bM t=some cs)(i:lam t=some b)(y:dp w G ρ (.sq t off) u x):
  b2 gl (w.setCell ⟨b,off,none⟩ u) G ρ lam tmps (st.eg t (cs.set off x))/\Good w G (w.setCell ⟨b,off,none⟩ u) G:=by
 obtain⟨A,g,r⟩:=h.bM t cs o;rw[i]at g;simp at g;subst g;have e:G b=some (.sr t,0):=by obtain⟨_,_,_,_,_,z,_⟩:=r;omega
 have d:=B7 (w:=w) (off:=off) (u:=u) e;have c:∀L,L≠.sr t->e5 L L w G (w.setCell ⟨b,off,none⟩ u) G:=λL p=>E5 e p;refine⟨⟨λs=>(h.aR s).b0 d (λ_ _ h=>h) (λ_ _ h=>h) (c _ az7),?_,?_,h.ob.b0 d (λ_=>c _ az7) (λ_ _=>c _ az7),h.eU.b0 d,λb L n k=>by rw[Je];exact h.lt _ _ _ k⟩,
  PB e az7 h.lt⟩
 .intro s q a;simp[ag.eg,dm]at a;by_cases f:s=t
  .subst f;grind[dC.write]
  .simp[f,aCW]at a;obtain⟨l,v,m⟩:=h.bM s q a;exact⟨l,v,dC.b0 d (λ_ _ h=>h) (c _ az8) (λj=>c _ az7) m⟩
 .intro s a;simp[ag.eg,dm]at a;by_cases f:s=t
  .simp_all
  .grind[nb]
theorem agP(st:ag)(t:Nat)(a b:List ah):(st.eg t a).eg t b=st.eg t b:=by
 unfold ag.eg;congr 1;grind[dm]
theorem agQ{st:ag}{t:Nat}{cs:List ah}(h:st.bM t=some cs):st.eg t cs=st:=by
 unfold ag.eg;cases st with
 |mk aR bM s=>
  congr 1
  grind[dm]
theorem b2.Jg{tmps:Array Value}{t b:Nat}:∀{us:List Value} {xs:List ah} {off:Nat} {cs:List ah} {w:World} {st:ag},b2 gl w G ρ lam tmps st->st.bM t=some cs->lam t=some b->cu w G ρ us xs->
  b2 gl (w.setCells b off us) G ρ lam tmps (st.eg t (putCells cs off xs))/\Good w G (w.setCells b off us) G
 |[],xs,off,cs,w,st,h,au,aE,a=>by
  cases a;rw[show putCells cs off []=cs from rfl,agQ au];exact⟨h,Good.refl h.lt⟩
 |u::us,xs,off,cs,w,st,h,au,aE,a=>by
  cases a with
  |cons _ x _ xs ai i=>
   obtain⟨g,d⟩:=h.Jf (off:=off) au aE (.cz ai);have e:(st.eg t (cs.set off x)).bM t=some (cs.set off x):=by simp[ag.eg,iO]
   obtain⟨c,f⟩:=b2.Jg (off:=off+1) g e aE (i.keep d.keep λ_ _ h=>h);rw[agP]at c;exact⟨c,d.trans f⟩
theorem b2.Jh{tmps:Array Value}{i b off:Nat}{u:Value}{x:ah}{cs:List ah}(h:b2 gl w G ρ lam tmps st)(au:st.s.getD i .dead=.box cs)(hi:ρ[i]?=some (b+1))(q:dp w G ρ (.dk i off) u x):
  b2 gl (w.setCell ⟨b,off,none⟩ u) G ρ lam tmps {st with s:=st.s.set i (.box (cs.set off x))}/\Good w G (w.setCell ⟨b,off,none⟩ u) G:=by
 have m:=aBF;have g:G b=some (.obj i,0):=by obtain⟨_,_,_,_,_,A,_⟩:=m;omega
 have e:=B7 (w:=w) (off:=off) (u:=u) g;have a:∀L,L≠.obj i->e5 L L w G (w.setCell ⟨b,off,none⟩ u) G:=λL t=>E5 g t;refine⟨⟨λs=>(h.aR s).b0 e (λ_ _ h=>h) (λ_ _ h=>h) (a _ az7),?_,h.nb,⟨aAN,?_⟩,h.eU.b0 e,λb L n o=>by rw[Je];exact h.lt _ _ _ o⟩,
  PB g az7 h.lt⟩
 .intro s v y;obtain⟨c,z,p⟩:=h.bM s v y;exact⟨c,z,dC.b0 e (λ_ _ h=>h) (a _ az7) (λj=>a _ az7) p⟩
 .intro j c ob f d;by_cases l:j=i
  .subst l;rw[hi]at f;simp at f;obtain rfl:b=c:=az6;have r:j<st.s.length:=az9;simp[aDf r,aCz]at d;subst d;exact m.write q az7
  .simp[aDb (aCP l)]at d;exact(h.ob.2 j c ob f d).b0 e (λ_ _ h=>h) (a _ az8) (λk=>a _ az7)
theorem agR{s:aY}{i:Nat}{cs a:List ah}(h:s.getD i .dead=.box cs):(s.set i (.box a)).getD i .dead=.box a:=az9
theorem Ji{s:aY}{i:Nat}{cs:List ah}(h:s.getD i .dead=.box cs):s.set i (.box cs)=s:=by
 apply aEm;grind
theorem b2.B8{tmps:Array Value}{i b:Nat}(hi:ρ[i]?=some (b+1)):∀{us:List Value} {xs:List ah} {off:Nat} {cs:List ah} {w:World} {st:ag},b2 gl w G ρ lam tmps st->st.s.getD i .dead=.box cs->cu w G ρ us xs->
  b2 gl (w.setCells b off us) G ρ lam tmps {st with s:=st.s.set i (.box (putCells cs off xs))}/\Good w G (w.setCells b off us) G
 |[],xs,off,cs,w,st,h,au,a=>by
  cases a;rw[show putCells cs off []=cs from rfl,Ji au];exact⟨h,Good.refl h.lt⟩
 |u::us,xs,off,cs,w,st,h,au,a=>by
  cases a with
  |cons _ x _ xs ai j=>
   obtain⟨g,d⟩:=h.Jh (off:=off) au hi (.cz ai);have e:({st with s:=st.s.set i (.box (cs.set off x))}:ag).s.getD i .dead=.box (cs.set off x):=agR au;obtain⟨c,f⟩:=b2.B8 hi (off:=off+1) g e (j.keep d.keep λ_ _ h=>h);simp at c;exact⟨c,d.trans f⟩
theorem E6{b off t:Nat}{v:Value}{L:Loc}{LC:Nat->Loc}{cs:List ah}(h:dC w G ρ b L LC cs)(i:off+v.cells.size<=cs.length)(g:df P t=some v.cells.size)(e:∀u∈v.cells.toList,u.oneCell'=true):
  (Instr.storeAt t (.pointer (some ⟨b,off,none⟩)) v).run P w=.ok () (w.setCells b off v.cells.toList):=by
 obtain⟨c,E,n,a,f,aX,l,m⟩:=h;have:=aEn (P:=P) b off v.cells.toList 0 w
  (λj d=>by
   rw[aDc,cell_of_block a];grind)
  (λj d=>by
   rw[aDc,tZ a];have k:off+j<c.size:=az9;simp_all)
  e
 simp_all[Instr.storeAt,Instr.sureAddr,storeVar,kA]
theorem PD{v:Value}{x:ah}(h:c7 w G ρ v x)(a:tK x=true):v.oneCell'=true:=by
 cases h with
 |d v y h=>cases h<;>first|rfl|grind[tK]
 |undef v=>grind[tK]
 |agg _ _ _=>grind[tK]
 |tuple _ _ _=>grind[tK]
 |f' _ _ _=>grind[tK]
 |_=>rfl
def aDJ:=@List.getElem_of_mem
def aCQ:=@List.all_eq_true
def aCC:=@List.getElem_mem
theorem aAO(h:p:=by grind[execOp,Sem.run_bind,Result.andThen_ok,Sem.run_pure]):p:=h
theorem aBh(h:p:=by rw[cj];exact aCM ka):p:=h
theorem aBi(h:p:=by rw[bb];exact dn):p:=h
theorem aBG(h:p:=by have:=p.rel.ob.at au;rwa [aC]at this):p:=h
theorem E7{t:Nat}{x:Operand}{y:O}(p:b6 n0 gl nt w G ρ lam a st)(H:bW P t x=some y)(K:(cellsOf (aO gl st y)).all kT=true):
  (kill st y=st/\cu w G ρ (a.eval x).cells.toList (cellsOf (aO gl st y))/\∀u∈(a.eval x).cells.toList,u.oneCell'=true)\/
  (∃s z,y=.t s/\st.aR s=z/\kill st y=st.set s .undef/\cellsOf (aO gl st y)=[z]/\(a.eval x).cells.toList=[a.eval x]/\(a.eval x).oneCell'=true/\dp w G ρ (.slot s) (a.eval x) z):=by
 have plain:∀{z:ah},c7 w G ρ (a.eval x) z->(cellsOf z).all kT=true->cu w G ρ (a.eval x).cells.toList (cellsOf z)/\∀u∈(a.eval x).cells.toList,u.oneCell'=true:=by
  intro z d N;have r:(cellsOf z).all (eo depth)=true:=by
   simp_all[kT]
  have v:=d.cells r;refine⟨v,?_⟩;intro u R;obtain⟨j,F,rfl⟩:=aDJ R;have A:j<(cellsOf z).length:=aAF;have C:=v.get (aCB F) (aCB A);have:=(aCQ.1 N) _ (aCC A);simp[kT,aCx]at this;exact PD C this.1
 rcases I4 H p.rel with⟨s,rfl,rfl⟩|⟨r,hA⟩
 .rcases xq st (.t s)with⟨q,V⟩|⟨s',Q,q,z,d,m⟩
  .refine .inl ⟨q,?_⟩;have f:=p.rel.aR s;rcases f.cases with o|⟨ev,off,b,e,_,_⟩
   .rcases o.cases with hA|⟨sz,l,e,L⟩|⟨sz,n,us,e,L⟩
    .exact plain hA K
    .have:=V s rfl;rw[e]at this;cases l<;>simp[iL,se]at this
    grind[se]
   grind[aO,cellsOf,kT,tK]
  .cases Q;right;have f:=p.rel.aR s;rw[m]at f;have o:dp w G ρ (.slot s) (a.tmps.getD s undef) z:=by cases z<;>simp[se]at d<;>exact f
   have U:∃h n c,a.tmps.getD s undef=.slice h n c:=by
    rcases o.cases with hA|⟨S,Z,e,g⟩|⟨S,n',Y,e,g⟩
    .cases z<;>simp[se]at d<;>cases k:a.tmps.getD s undef<;>rw[k]at hA<;>cases hA;simp
    .rcases g with⟨b,off,J,c,E,M,W,i,_⟩|⟨_,_,i⟩<;>exact⟨_,_,_,i⟩
    .obtain⟨b,J,c,E,M,W,i,_⟩:=g;simp_all
   obtain⟨h,n,c,k⟩:=U;have B:a.eval (.tmp s)=.slice h n c:=k;refine⟨s,z,rfl,m,q,?_,?_,?_,?_⟩
   .show cellsOf (st.aR s)=_;rw[m];cases z<;>simp[se]at d<;>rfl
   .rw[B];rfl
   .rw[B];rfl
   simp_all
 grind[xq]
theorem b2.E8{tmps:Array Value}{s:Nat}{L:Loc}(h:b2 gl w G ρ lam tmps st):
  b2 gl w (da (fe (.slot s) L) G) ρ lam tmps (st.set s .undef):=by
 have d:de w G w (da (fe (.slot s) L) G):=kz _;have a:∀c,c≠.slot s->e5 c c w G w (da (fe (.slot s) L) G):=λc k=>sv (q5 k);refine⟨?_,?_,h.nb,?_,h.eU.b0 d,sw h.lt⟩
 .intro t;simp only[ag.set,dm];by_cases e:t=s
  .simp[e,if_true];exact .cz (.undef _)
  .simp only[e,aCW];exact(h.aR t).b0 d (λ_ _ h=>h) (λ_ _ h=>h) (a _ az9)
 .intro t l g;obtain⟨b,m,f⟩:=h.bM t l g;exact⟨b,m,dC.b0 d (λ_ _ h=>h) (a _ az7) (λj=>a _ az7) f⟩
 .exact h.ob.b0 d (λi=>a _ az7) (λi j=>a _ az7)
theorem agS{b off:Nat}{u:Value}:w.setCells b off [u]=w.setCell ⟨b,off,none⟩ u:=rfl
theorem agT{t tb off n Y Z:Nat}{x y:Operand}{u C:O}(p:b6 n0 gl nt w G ρ lam a st)(bb:o.dst=none)(bE:o.op=.store t x y)(H:bW P Y x=some u)(F:bW P Z y=some C)
  (aM:df P t=some n) (b:step (bA P gl) gl (.ls u tb off C n) st K):o.wp P a w (cP n0 gl nt w G ρ K) Q:=by
 obtain⟨fC,m⟩:=dY H p.rel;simp[step]at b;split at b
 .rename_i d c cs J f;obtain⟨q,b⟩:=b;simp only[aCx]at q;obtain⟨⟨⟨⟨E,M⟩,B⟩,ka⟩,R⟩:=q;obtain rfl:d=tb:=aCG E;obtain rfl:c=off:=aCG M;have B:=aCG B;rw[J]at m;obtain⟨ad,r,hv⟩:=m;obtain⟨g,j,A⟩:=p.rel.bM d cs f;rw[j]at r;simp at r;have k:(Instr.storeAt t (.pointer (some ⟨g,c,none⟩)) (a.eval y)).run P w=.ok () (w.setCells g c (a.eval y).cells.toList)->(execOp a.eval o).run P w=.ok .skip (w.setCells g c (a.eval y).cells.toList):=aAO;rcases E7 p F R with⟨l,N,h1⟩|⟨s,z,rfl,fK,l,S,U,h1,V⟩
  .have cj:(a.eval y).cells.size=n:=by grind[Array.length_toList,cu.length]
   have e:=E6 (P:=P) (t:=t) (v:=a.eval y) A aBh az8 h1;obtain⟨dn,i⟩:=b2.Jg p.rel f j N;rw[l]at b;exact vH (k e) (lx p.eT (put_defers _ _ _) aAe G ρ lam _ aBi i (λ_ _ h=>h) b)
  .have cj:(a.eval y).cells.size=n:=by grind[Array.length_toList]
   have e:=E6 (P:=P) (t:=t) (v:=a.eval y) A aBh az8 az8;have W:=p.rel.E8 (s:=s) (L:=.sq d c);have xC:=by
    have:=o1 (w:=w) (G:=G) (fe (.slot s) (.sq d c)) (.slot s);rw[tS]at this;exact V.b0 (kz _) (λ_ _ h=>h) this
   obtain⟨dn,i⟩:=b2.Jf (off:=c) W (show(st.set s .undef).bM d=some cs from f) j xC;rw[l,S]at b;rw[U]at e k;exact vH (k e) (lx p.eT (put_defers _ _ _) aAe _ ρ lam _ aBi ((q6 p.rel.lt az7 az7).trans i) (λ_ _ h=>h) b)
 .exact b.elim
theorem agU{t n S U:Nat}{x y:Operand}{l u:O}(p:b6 n0 gl nt w G ρ lam a st)(bb:o.dst=none)(Y:o.op=.store t x y)(B:bW P S x=some l)(A:bW P U y=some u)
  (W:df P t=some n) (c:step (bA P gl) gl (.hs l u n) st K):o.wp P a w (cP n0 gl nt w G ρ K) Q:=by
 obtain⟨Z,j⟩:=dY B p.rel;simp only[step]at c;split at c
 .rename_i i off C;rw[C]at j;have q:=j;cases F:a.eval x<;>rw[F]at q<;>cases q;rename_i b au;split at c
  .rename_i cs aC;obtain⟨k,c⟩:=c;simp only[aCx]at k;obtain⟨⟨r,ka⟩,H⟩:=k;have r:=aCG r;have m:=aBG;have e:(Instr.storeAt t (.pointer (some ⟨b,off,none⟩)) (a.eval y)).run P w=.ok () (w.setCells b off (a.eval y).cells.toList)->(execOp a.eval o).run P w=.ok .skip (w.setCells b off (a.eval y).cells.toList):=aAO;rcases E7 p A H with⟨g,E,h1⟩|⟨s,z,rfl,fK,g,J,M,h1,N⟩
   .have cj:(a.eval y).cells.size=n:=by grind[Array.length_toList,cu.length]
    have d:=E6 (P:=P) (t:=t) (v:=a.eval y) m aBh az8 h1;obtain⟨dn,f⟩:=b2.B8 au p.rel aC E;rw[g]at c;exact vH (e d) (lx p.eT (put_defers _ _ _) aAe G ρ lam _ aBi f (λ_ _ h=>h) c)
   .have cj:(a.eval y).cells.size=n:=by grind[Array.length_toList]
    have d:=E6 (P:=P) (t:=t) (v:=a.eval y) m aBh az8 az8;have R:=p.rel.E8 (s:=s) (L:=.dk i off);have V:dp w (da (fe (.slot s) (.dk i off)) G) ρ (.dk i off) (a.eval y) z:=by
     have:=o1 (w:=w) (G:=G) (fe (.slot s) (.dk i off)) (.slot s);rw[tS]at this;exact N.b0 (kz _) (λ_ _ h=>h) this
    obtain⟨dn,f⟩:=b2.Jh (off:=off) R (show(st.set s .undef).s.getD i .dead=.box cs from aC) au V;rw[g,J]at c;rw[M]at d e;rw[agS]at d e;exact vH (e d) (lx p.eT (put_defers _ _ _) aAe _ ρ lam _ aBi ((q6 p.rel.lt az7 az7).trans f) (λ_ _ h=>h) c)
  .exact c.elim
 .exact c.elim
theorem dC.PE{b off:Nat}{cs:List ah}{L:Loc}{LC:Nat->Loc}{d:Nat}(h:dC w G ρ b L LC cs)(g:L≠LC off)(s:∀j,j≠off->LC j≠LC off)(r:off<cs.length):
  dC w (da (fe (LC off) (.slot d)) G) ρ b L LC (cs.set off .undef)/\∃v,w.cell? ⟨b,off,none⟩=some v/\dp w (da (fe (LC off) (.slot d)) G) ρ (.slot d) v (cs.getD off .undef):=by
 have n:de w G w (da (fe (LC off) (.slot d)) G):=kz _;have l:∀e,e≠LC off->e5 e e w G w (da (fe (LC off) (.slot d)) G):=λe g=>sv (q5 g);obtain⟨c,E,t,k,o,q,x,i⟩:=h;refine⟨⟨c,E,t,k,o,(l L g _ _ q).2,az8,?_⟩,?_⟩
 .intro j v y u a;by_cases f:j=off
  .subst f;rw[aDf r]at a;simp at a;subst a;exact .cz (.undef _)
  .rw[aDb (aCP f)]at a;exact(i j v y u a).b0 n (λ_ _ h=>h) (l _ (s j f))
 .have z:=by omega
  refine⟨c[off],by rw[cell_of_block k];simp,?_⟩;have p:cs[off]?=some (cs.getD off .undef):=az8;have m:=o1 (w:=w) (G:=G) (fe (LC off) (.slot d)) (LC off);rw[tS]at m;exact(i off c[off] _ az7 p).b0 n (λ_ _ h=>h) m
theorem PF{b off t:Nat}{v:Value}(a:w.cell? ⟨b,off,none⟩=some v)(c:kW P t=some false):(Instr.loadAt t (.pointer (some ⟨b,off,none⟩))).run P w=.ok v w:=by
 simp_all[Instr.loadAt,Instr.sureAddr,loadVar,xr]
theorem agV{d t tb off V:Nat}{x:Operand}{q:O}(p:b6 n0 gl nt w G ρ lam a st)(E:o.dst=some d)(H:d<nt)(bE:o.op=.load t x)(A:bW P V x=some q)
  (dx:kW P t=some false) (f:step (bA P gl) gl (.lt d q tb off) st K):o.wp P a w (cP n0 gl nt w G ρ K) Q:=by
 obtain⟨fC,l⟩:=dY A p.rel;simp[step]at f;split at f
 .rename_i b c cs B r;obtain⟨m,f⟩:=f;simp only[aCx]at m;obtain⟨⟨u,F⟩,Y⟩:=m;obtain rfl:b=tb:=aCG u;obtain rfl:c=off:=aCG F;have C:c<cs.length:=az8;rw[B]at l;obtain⟨ad,n,hv⟩:=l;obtain⟨cr,M,R⟩:=p.rel.bM b cs r;rw[M]at n;simp at n;obtain⟨W,v,Z,U⟩:=R.PE (d:=d) (off:=c) az7 az7 C;have j:de w G w (da (fe (.sq b c) (.slot d)) G):=kz _;have g:∀i,i≠.sq b c->e5 i i w G w (da (fe (.sq b c) (.slot d)) G):=λi J=>sv (q5 J);have L:b2 gl w (da (fe (.sq b c) (.slot d)) G) ρ lam a.tmps (st.eg b (cs.set c .undef)):=by
   refine⟨λs=>(p.rel.aR s).b0 j (λ_ _ h=>h) (λ_ _ h=>h) (g _ az7),?_,?_,p.rel.ob.b0 j (λ_=>g _ az7) (λ_ _=>g _ az7),p.rel.eU.b0 j,sw p.rel.lt⟩
   .intro s N e;simp[ag.eg,dm]at e;by_cases k:s=b
    .simp_all
    .simp[k,aCW]at e;obtain⟨y,S,z⟩:=p.rel.bM s N e;exact⟨y,S,dC.b0 j (λ_ _ h=>h) (g _ az7) (λao=>g _ az8) z⟩
   .intro s e;simp[ag.eg,dm]at e;by_cases k:s=b
    .simp_all
    .simp[k,aCW]at e;exact p.rel.nb s e
  refine gg (v:=v) ?_ (oi L p.eT p.sz H (q6 p.rel.lt az7 az7) (λ_ _ h=>h) E (.mj U) f);simp_all[execOp,PF]
 .exact f.elim
theorem agW{d t W:Nat}{x:Operand}{q:O}(p:b6 n0 gl nt w G ρ lam a st)(F:o.dst=some d)(H:d<nt)(bE:o.op=.load t x)(B:bW P W x=some q)
  (dx:kW P t=some false) (c:step (bA P gl) gl (.aK d q) st K):o.wp P a w (cP n0 gl nt w G ρ K) Q:=by
 obtain⟨fC,n⟩:=dY B p.rel;simp only[step]at c;split at c
 .rename_i i off C;rw[C]at n;have u:=n;cases L:a.eval x<;>rw[L]at u<;>cases u;rename_i b au;split at c
  .rename_i cs aC;obtain⟨Y,c⟩:=c;have E:off<cs.length:=az8;have R:=aBG;obtain⟨y,v,Z,V⟩:=R.PE (d:=d) (off:=off) az7 az7 E;have l:de w G w (da (fe (.dk i off) (.slot d)) G):=kz _;have e:∀f,f≠.dk i off->e5 f f w G w (da (fe (.dk i off) (.slot d)) G):=λf J=>sv (q5 J);have M:b2 gl w (da (fe (.dk i off) (.slot d)) G) ρ lam a.tmps {st with s:=st.s.set i (.box (cs.set off .undef))}:=by
    refine⟨λs=>(p.rel.aR s).b0 l (λ_ _ h=>h) (λ_ _ h=>h) (e _ az7),?_,p.rel.nb,⟨by simpa using p.rel.ob.1,?_⟩,p.rel.eU.b0 l,sw p.rel.lt⟩
    .intro s N S;obtain⟨g,U,z⟩:=p.rel.bM s N S;exact⟨g,U,dC.b0 l (λ_ _ h=>h) (e _ az7) (λj=>e _ az7) z⟩
    .intro j g ob m k;by_cases r:j=i
     .subst r;rw[au]at m;simp at m;obtain rfl:b=g:=az6;have A:j<st.s.length:=az9;simp[aDf A,aCz]at k;subst k;exact y
     .simp[aDb (aCP r)]at k;exact(p.rel.ob.2 j g ob m k).b0 l (λ_ _ h=>h) (e _ az7) (λad=>e _ az8)
   refine gg (v:=v) ?_ (oi M p.eT p.sz H (q6 p.rel.lt az7 az7) (λ_ _ h=>h) F (.mj V) c);simp_all[execOp,PF]
  .exact c.elim
 .exact c.elim
def aF2:=@List.foldl_cons
def aDE:=@List.length_set
def aC0:=@cond_true
theorem agY{d t f n Y:Nat}{k:Bool}{x:Operand}{e:O}{E:Array Field}{b:Field}(p:b6 n0 gl nt w G ρ lam a st)(z:o.dst=some d)(B:d<nt)(u:o.op=.field t x f)(R:bW P Y x=some e)
  (F:P.underlying t=some (.struct E)) (A:E[f]?=some b) (M:df P b.type=some n) (C:kW P b.type=some k) (W:k=false->n=1)
  (l:step (bA P gl) gl (.fd d e b.offset n k) st K):o.wp P a w (cP n0 gl nt w G ρ K) Q:=by
 obtain⟨fC,q⟩:=dY R p.rel;obtain⟨j,l⟩:=l;simp only[aCx]at j;obtain⟨r,s⟩:=j;have s:=aCM s;have H:∃c,a.eval x=.agg ⟨c⟩/\cu w G ρ c (cellsOf (aO gl st e)):=by
  cases he:aO gl st e<;>rw[he]at q r<;>simp[xh]at r;case agg cs=>
   have i:=q;cases g:a.eval x<;>rw[g]at i<;>cases i;rename_i c h;exact⟨c,rfl,h⟩
  case d y=>
   cases y<;>simp at r;have i:=q.je;cases g:a.eval x<;>rw[g]at i<;>cases i;rename_i c h;exact⟨c,rfl,h.ER⟩
 obtain⟨c,g,m⟩:=H;have Z:=m.length;cases k with
 |true=>
  refine p.value z B (v:=.agg ((⟨c⟩:Array Value).extract b.offset (b.offset+n))) ?_ (.cz (x:=valOf (cellsOf (aO gl st e)) b.offset n true) ?_) l
  .simp[execOp,u,g,Instr.field,aCD,eN F,aCH,A,asAgg,aCK,part,xr C,if_true,kA M]
  .have:(⟨c⟩:Array Value).extract b.offset (b.offset+n)=⟨(c.drop b.offset).take n⟩:=by
    simp
   rw[this];exact ES (LC:=λ_=>.res) az9 λad v y S N=>.cz (((m.drop _).take _).get S N)
 |false=>
  obtain rfl:=W rfl;have U:b.offset<c.length:=az6;have j:(⟨c⟩:Array Value)[b.offset]?=some c[b.offset]:=az7;refine p.value z B (v:=c[b.offset]) ?_ (.cz (x:=valOf (cellsOf (aO gl st e)) b.offset 1 false) ?_) l
  .simp only[execOp,u,g,Instr.field,aCD,eN F,aCH,A,asAgg,aCK,part,xr C,aDq,aCW,j]
  .have V:(cellsOf (aO gl st e))[b.offset]?=some ((cellsOf (aO gl st e)).getD b.offset .undef):=by grind
   have J:=m.get (aCB U) V;exact(dp.cz (L:=.res) J).snap
theorem agZ:∀{us:List Value} {xs:List ah} {off:Nat} {vs:List Value} {cs:List ah},cu w G ρ us xs->cu w G ρ vs cs->
  ∃d,cu w G ρ d (putCells cs off xs)/\d=(us.zipIdx.foldl (λ(c:Array Value) (p:Value×Nat)=>c.setIfInBounds (off+p.2) p.1) ⟨vs⟩).toList:=by
 intro us;suffices h:∀(us:List Value) (k:Nat) (xs:List ah) (off:Nat) (vs:List Value) (cs:List ah),cu w G ρ us xs->cu w G ρ vs cs->
   cu w G ρ (((us.zipIdx k).foldl (λ(c:Array Value) (p:Value×Nat)=>c.setIfInBounds (off+p.2) p.1) ⟨vs⟩).toList) (putCells cs (off+k) xs)from
  λ{xs off vs cs} a b=>⟨_,by simpa using h us 0 xs off vs cs a b,rfl⟩
 intro us;induction us with
 |nil=>intro k xs off vs cs a b;cases a;simp_all[putCells]
 |cons u us ih=>
  intro k xs off vs cs a b;cases a with
  |cons _ x _ xs ai f=>
   simp[List.zipIdx_cons,aF2,putCells];have e:cu w G ρ (vs.set (off+k) u) (cs.set (off+k) x):=by
    refine .mk (by simp[b.length]) λj v y m i=> ?_;by_cases g:j=off+k
    .grind
    .grind[cu.get]
   have l:=ih (k+1) xs off (vs.set (off+k) u) (cs.set (off+k) x) f e;grind
theorem ag0:∀{xs:List ah} {off:Nat} {cs:List ah},(putCells cs off xs).length=cs.length
 |[],_,_=>rfl
 |x::xs,off,cs=>by simp[putCells,ag0,aDE]
theorem PH{s:Nat->Option (Nat×Nat)}(p:b6 n0 gl nt w G ρ lam a st):∀{ps:List (Nat×Operand)} {l:List (Nat×Nat×O)} {cs f:List ah} {vs:List Value},
  hW (λ(q:Nat×Operand) (r:Nat×Nat×O)=>s q.1=some (r.1,r.2.1)/\∃t,bW P t q.2=some r.2.2) ps l->cu w G ρ vs cs->pM gl st cs l=some f->
  ∃g,Instr.fill s ⟨vs⟩ (ps.map λq=>(q.1,a.eval q.2))=some ⟨g⟩/\cu w G ρ g f
 |[],_,cs,f,vs,h,d,c=>by
  cases h;simp[pM,aCz]at c;subst c;exact⟨vs,rfl,d⟩
 |(i,x)::ps,_,cs,f,vs,h,d,c=>by
  cases h with
  |cons u h=>
   rename_i r l;obtain⟨off,n,k⟩:=r;obtain⟨F,t,y⟩:=u;simp[pM]at c;cases j:(Nat.beq (cellsOf (cX (snap (aO gl st k)))).length n&&Nat.ble (off+n) cs.length&&(cellsOf (cX (snap (aO gl st k)))).all (eo depth))with
   |false=>simp_all
   |true=>
    simp[j,aC0]at c;simp only[aCx]at j;obtain⟨⟨o,m⟩,H⟩:=j;have o:=aCG o;have m:=aCM m;have C:=(zH (L:=.res) y p.rel).cX (L':=.res);have E:c7 w G ρ (a.eval x) (cX (snap (aO gl st k))):=by
     rcases C.cases with h|⟨M,R,b,e,_,_⟩
     all_goals grind[IY,IZ,cellsOf,eo,dp.cases]
    have B:=E.cells H;obtain⟨N,J,z⟩:=agZ (off:=off) B d;obtain⟨g,v,A⟩:=PH p h J c;refine⟨g,?_,A⟩;simp only[aDe,Instr.fill,F];have K:(a.eval x).cells.size=n:=by grind[Array.length_toList,cu.length]
    have Q:=d.length;have S:((a.eval x).cells.size≠n||off+(a.eval x).cells.size>(⟨vs⟩:Array Value).size)=false:=az8;rw[aCV az8];rw[<-v,z,<-Array.foldl_toList];simp
def aDU:=@List.getElem?_toArray
theorem aAw(h:p:=by rw[cg];rfl):p:=h
theorem aA8(h:p:=by rw[cg];exact heq _):p:=h
theorem aBj(h:p:=by simp[Op.equalIn,eN hu]):p:=h
theorem sF{b c:Type}{f:b->Option c}:∀{l:List b} {a:List c},l.mapM f=some a->hW (λx y=>f x=some y) l a
 |[],a,h=>by simp at h;subst h;exact .nil
 |x::l,a,h=>by
  cases ai:f x with
  |none=>simp[ai]at h
  |some y=>
   cases aE:l.mapM f with
   |none=>simp[ai,aE]at h
   |some ys=>
    simp[ai,aE]at h;subst h;exact .cons ai (sF aE)
theorem mapM_some{b c:Type}{f:b->Option c}:∀{l:List b},(∀x,x∈l->∃y,f x=some y)->∃a,l.mapM f=some a
 |[],_=>⟨[],rfl⟩
 |x::l,h=>by
  obtain⟨y,g⟩:=h x az7;obtain⟨a,d⟩:=mapM_some (l:=l) λz e=>h z az9;simp_all
theorem Jk{b c:Type}{f:b->Option c}:∀{l:List b} {a:List c} {i:Nat} {x:b},l.mapM f=some a->l[i]?=some x->∃y,a[i]?=some y/\f x=some y
 |[],_,_,_,_,h=>az9
 |z::l,a,i,x,h,hi=>by
  cases ai:f z with
  |none=>simp_all
  |some y=>
   cases aE:l.mapM f with
   |none=>simp_all
   |some ys=>
    simp[ai,aE]at h;subst h;cases i with
    |zero=>simp_all
    |succ i=>
     obtain⟨g,e,d⟩:=Jk aE hi;simp_all
theorem hW.imp{b c:Type}{R S:b->c->Prop}(hi:∀x y,R x y->S x y):∀{l:List b} {a:List c},hW R l a->hW S l a
 |_,_,.nil=>.nil
 |_,_,.cons h t=>.cons (hi _ _ h) (t.imp hi)
theorem info_of_underlying{t:Nat}{d:TypeDesc}(h:P.underlying t=some d):∃i,P.info? t=some i:=by
 grind[Program.underlying]
theorem PI{n t:Nat}{z:List ah}(h:oY P n t=some z):∃i,P.info? t=some i:=by
 cases n with
 |zero=>grind[oY]
 |succ n=>
  grind[oY,info_of_underlying]
theorem ag1{t:Nat}{z:List ah}(h:zeros P t=some z):oY P 20 t=some z:=by
 unfold zeros at h;cases h1:oY P 20 t with
 |none=>simp_all
 |some cs=>
  cases a:P.info? t with
  |none=>simp_all
  |some i=>
   cases b:i.zero with
   |none=>simp_all
   |some v=>
    simp_all
theorem ag2{t:Nat}{z:List ah}{i:TypeInfo}{v:Value}(o:zeros P t=some z)(hi:P.info? t=some i)(G:i.zero=some v){ps:List (Nat×Value)}{cs:Array Value}
  (g:Instr.fill (partOf P t) v.cells ps=some cs) (r:∃d,P.underlying t=some d/\d.isRow=true):P.built t ps=some cs:=by
 obtain⟨d,F,E⟩:=r;have a:=ag1 o;cases d with
 |struct fs=>
  have s:∃places,fs.toList.mapM (λf=>(P.info? f.type).map λi=>(f.offset,i.size))=some places:=by
   unfold oY at a;cases hm:fs.toList.mapM λf=>oY P 19 f.type with
   |none=>simp_all
   |some l=>
    refine mapM_some λf g=> ?_;obtain⟨j,m⟩:=List.getElem?_of_mem g;obtain⟨y,_,p⟩:=Jk hm m;obtain⟨A,B⟩:=PI p;simp_all
  obtain⟨places,b⟩:=s;unfold Program.built;have w:(λx=>places.toArray[x]?)=partOf P t:=by
   funext k;unfold partOf;cases H:fs[k]? with
   |none=>
    have:places.length=fs.toList.length:=by
     have:=sF b;clear b;generalize fs.toList=l at this;induction this with
     |nil=>rfl
     |cons _ _ ih=>grind
    simp_all
   |some f=>
    have q:fs.toList[k]?=some f:=az8;obtain⟨y,u,C⟩:=Jk b q;simp[aDU,u,df];cases B:P.info? f.type with
    |none=>simp_all
    |some A=>simp_all
  simp_all
 |array n e=>
  have h:=by
   unfold oY at a;simp at a;cases hm:oY P 19 e with
   |none=>simp_all
   |some l=>exact PI hm
  obtain⟨c,h⟩:=h;unfold Program.built;simp;have w:(λx=>some (x*c.size,c.size))=partOf P t:=by
   grind[partOf,df]
  simp_all
 |_=>simp_all
theorem ag4{d t:Nat}{z:List ah}{ps:Array (Nat×Operand)}{c:List (Nat×Nat×O)}(p:b6 n0 gl nt w G ρ lam a st)(k:o.dst=some d)(m:d<nt)(A:o.op=.build t ps)(g:zeros P t=some z)
  (B:∃d,P.underlying t=some d/\d.isRow=true)
  (h:hW (λ(q:Nat×Operand) (r:Nat×Nat×O)=>partOf P t q.1=some (r.1,r.2.1)/\∃t,bW P t q.2=some r.2.2) ps.toList c)
  (b:step (bA P gl) gl (.od d z c) st K):o.wp P a w (cP n0 gl nt w G ρ K) Q:=by
 obtain⟨i,v,C,s,y,n,j⟩:=om g;simp[step]at b;split at b
 .rename_i cs l;obtain⟨e,u,f⟩:=PH p h j l;have x:P.built t (ps.map λq=>(q.1,a.eval q.2)).toList=some ⟨e⟩:=by
   simp_all[ag2]
  refine p.value k m (v:=.agg ⟨e⟩) ?_ (.cz (.agg _ _ f)) b;grind[execOp,Sem.run_bind,run_build,Result.andThen_ok,Sem.run_pure]
 .exact b.elim
theorem E9{xs:List Operand}{ys:List O}(p:b6 n0 gl nt w G ρ lam a st)(h:hW (λx y=>∃t,bW P t x=some y) xs ys)(d:(ys.map λx=>cX (snap (aO gl st x))).all (eo depth)=true):
  cu w G ρ (xs.map a.eval) (ys.map λx=>cX (snap (aO gl st x))):=by
 induction h with
 |nil=>exact .nil
 |@cons x y xs ys c _ ih=>
  obtain⟨t,c⟩:=c;simp only[aDe,aEI,aCx]at d⊢;refine .cons _ _ _ _ ?_ (ih d.2);have f:=(zH (L:=.res) c p.rel).cX (L':=.res);rcases f.cases with h|⟨g,i,b,e,_,_⟩
  all_goals grind[IY,IZ,eo,dp.cases]
theorem ag5{d f:Nat}{xs cs:Array Operand}{ys zs:List O}(p:b6 n0 gl nt w G ρ lam a st)(k:o.dst=some d)(l:d<nt)(s:o.op=.makeFunc (.func f) xs cs)
  (h:hW (λx y=>∃t,bW P t x=some y) xs.toList ys) (j:hW (λx y=>∃t,bW P t x=some y) cs.toList zs)
  (b:step (bA P gl) gl (.xf d f ys zs) st K):o.wp P a w (cP n0 gl nt w G ρ K) Q:=by
 have c:(execOp a.eval o).run P w=.ok (.value (.func (.func f) (xs.map a.eval) (cs.map a.eval))) w:=by
  simp_all[execOp,Instr.makeFunc]
 simp only[step]at b;split at b
 .have i:xs= #[]:=by cases aE:xs.toList with|nil=>simp_all|cons q n=>rw[aE]at h;cases h
  have e:cs= #[]:=by cases aE:cs.toList with|nil=>simp_all|cons q n=>rw[aE]at j;cases j
  rw[i,e,Array.map_empty]at c;exact p.value k l c (.cz (.d _ _ (.fn f))) b
 .obtain⟨g,b⟩:=b;simp only[aCx]at g;refine p.value k l c (.cz ?_) b;have r:=E9 p h g.1;have m:=E9 p j g.2;have i:xs.map a.eval=⟨xs.toList.map a.eval⟩:=az9;have e:cs.map a.eval=⟨cs.toList.map a.eval⟩:=az9;rw[i,e];exact .func _ _ _ _ _ r m
theorem dq.xi{v:Value}{x:ah}{sz:Nat}{l:List D}{L:Loc}(h:dq w G ρ lam L v x)(a:xi x=some (sz,l)):∃b n cap,v=.slice b n cap/\(l≠[]->b≠none):=by
 unfold aG.xi at a;split at a
 .rename_i i off len cap sz;have c:=h;cases c;simp
 all_goals first
  |(simp at a;done)
  |(obtain⟨rfl,rfl⟩:=a
    obtain⟨b,cap,e,_,d⟩:=(h.hJ rfl).slice;grind)
theorem ag6{d:Nat}{x z:Operand}{W:O}{t u t1 hG:Nat}{neg:Bool}{Z:TypeDesc}(p:b6 n0 gl nt w G ρ lam a st)(V:o.dst=some d)(Y:d<nt)
  (L:o.op=.binOp (if neg then .neq else .eql) t x z u) (ai:bW P t1 x=some W) (hu:P.underlying t=some Z) (m:zx Z z=some hG)
  (j:step (bA P gl) gl (.mS d neg hG W) st K):o.wp P a w (cP n0 gl nt w G ρ K) Q:=by
 obtain⟨fC,g⟩:=dY ai p.rel;have s:∀(b:Bool) (l:Value),a.eval z=l->(l=.slice none 0 0\/l=.map none\/l=.nilFunc\/l=.pointer none)->(Op.equal t (a.eval x) l).run P w=.ok b w->(a.eval x).oneCell'=true->a.eval x≠.nilIface->(∀k n,a.eval x≠.int k n)->(∀ad,a.eval x≠.string ad)->
   K (st.set d (.d (.bool (cond neg (!b) b))))->o.wp P a w (cP n0 gl nt w G ρ K) Q:=by
  intro b l oo J N af av aZ bN M;refine p.value V Y (v:=.bool (cond neg (!b) b)) ?_ (.cz (.d _ _ (.bool _))) M;have F:=I5 (P:=P) (w:=w) (op:=if neg then .neq else .eql) (t:=t) (x:=x) (y:=z) (v:=l) af av;have S:binOp .eql t (a.eval x) l=(Op.equal t (a.eval x) l>>= λb=>pure (.bool b))/\binOp .neq t (a.eval x) l=(Op.equal t (a.eval x) l>>= λb=>pure (.bool (!b))):=by
   rcases J with rfl|rfl|rfl|rfl<;>(cases hv:a.eval x with
    |int k n=>simp_all
    |string ad=>simp_all
    |_=>exact⟨rfl,rfl⟩)
  cases neg
  .simp_all[execOp]
  simp_all[execOp]
 have ar:∀{q:Prop},(cond neg (!false) false=neg):=λ{_}=>az7;have aE:∀{q:Prop},(cond neg (!true) true=!neg):=λ{_}=>az7;unfold zx at m;split at m
 ·
  simp at m;subst m;simp[step]at j;have heq:∀(A:Option Addr) (n c:Nat),(Op.equal t (.slice A n c) (.slice none 0 0)).run P w=.ok A.isNone w:=by
   intro A n c;have:∀k,(Op.equalIn (k+1) t (.slice A n c) (.slice none 0 0)).run P w=.ok A.isNone w:=λk=>by
    cases A<;>simp[Op.equalIn,eN hu]
   exact this 9999
  split at j
  .rename_i sz q cB h;obtain⟨A,n,aB,B,k3⟩:=g.xi h;obtain⟨A,rfl⟩:=Option.ne_none_iff_exists'.1 (k3 az7);exact s false _ rfl (.inl rfl) (by rw[B];exact heq _ _ _) (by rw[B];rfl) az8 az8 az8 az8
  .rename_i sz h;obtain⟨A,n,aB,B,k3⟩:=g.xi h;cases U:A.isNone with
   |true=>exact s true _ rfl (.inl rfl) (by rw[B,<-U];exact heq _ _ _) (by rw[B];rfl) az8 az8 az8 (by exact j.2)
   |false=>exact s false _ rfl (.inl rfl) (by rw[B,<-U];exact heq _ _ _) (by rw[B];rfl) az8 az8 az8 (by rw[ar (q:=True)];exact j.1)
  .exact j.elim
 .simp at m;subst m;simp[step]at j;have heq:∀(r:Option Nat),(Op.equal t (.map r) (.map none)).run P w=.ok r.isNone w:=by
   intro r;have:∀k,(Op.equalIn (k+1) t (.map r) (.map none)).run P w=.ok r.isNone w:=λk=>by
    cases r<;>simp[Op.equalIn,eN hu]
   exact this 9999
  split at j
  .rename_i i h;rw[h]at g;have e:=g;cases cg:a.eval x<;>rw[cg]at e<;>cases e;exact s false _ rfl (.inr (.inl rfl)) aA8 aAw az8 az8 az8 az8
  .rename_i h;rw[h]at g;have e:=g.je;cases cg:a.eval x<;>rw[cg]at e<;>cases e;exact s true _ rfl (.inr (.inl rfl)) aA8 aAw az8 az8 az8 az8
  .exact j.elim
 .simp at m;subst m;simp[step]at j;have heq:∀(R:Fn) (b c:Array Value),(Op.equal t (.func R b c) .nilFunc).run P w=.ok false w:=by
   intro R b c;have:∀k,(Op.equalIn (k+1) t (.func R b c) .nilFunc).run P w=.ok false w:=λk=>aBj;exact this 9999
  have ay:=by
   have:∀k,(Op.equalIn (k+1) t .nilFunc .nilFunc).run P w=.ok true w:=λk=>aBj;exact this 9999
  split at j
  .rename_i f ff cs h;rw[h]at g;have e:=g;cases cg:a.eval x<;>rw[cg]at e<;>cases e;exact s false _ rfl (.inr (.inr (.inl rfl))) (by rw[cg];exact heq _ _ _) aAw az8 az8 az8 az8
  .rename_i f h;rw[h]at g;have e:=g.je;cases cg:a.eval x<;>rw[cg]at e<;>cases e;exact s false _ rfl (.inr (.inr (.inl rfl))) (by rw[cg];exact heq _ _ _) aAw az8 az8 az8 az8
  .rename_i h;rw[h]at g;have e:=g.je;cases cg:a.eval x<;>rw[cg]at e<;>cases e;exact s true _ rfl (.inr (.inr (.inl rfl))) (by rw[cg];exact ay) aAw az8 az8 az8 az8
  .exact j.elim
 .simp at m;subst m;simp[step]at j;have heq:∀(r:Option Addr),(Op.equal t (.pointer r) (.pointer none)).run P w=.ok r.isNone w:=by
   intro r;have:∀k,(Op.equalIn (k+1) t (.pointer r) (.pointer none)).run P w=.ok r.isNone w:=λk=>by
    cases r<;>simp[Op.equalIn,eN hu]
   exact this 9999
  split at j
  .rename_i i off h;rw[h]at g;have e:=g;cases cg:a.eval x<;>rw[cg]at e<;>cases e;exact s false _ rfl (.inr (.inr (.inr rfl))) aA8 aAw az8 az8 az8 az8
  .rename_i cs off h;rw[h]at g;have e:=g.je;cases cg:a.eval x<;>rw[cg]at e<;>cases e;exact s false _ rfl (.inr (.inr (.inr rfl))) aA8 aAw az8 az8 az8 az8
  .rename_i h;rw[h]at g;have e:=g.je;cases cg:a.eval x<;>rw[cg]at e<;>cases e;exact s true _ rfl (.inr (.inr (.inr rfl))) aA8 aAw az8 az8 az8 az8
  .exact j.elim
 .simp at m;subst m;simp[step]at j;have J:a.eval (.const .nilIface)=.nilIface:=rfl;have aI:∀(b:Bool),(Op.equal t (a.eval x) .nilIface).run P w=.ok b w->(a.eval x=.nilIface\/∃t v,a.eval x=.iface t v)->K (st.set d (.d (.bool (cond neg (!b) b))))->o.wp P a w (cP n0 gl nt w G ρ K) Q:=by
   intro b N C M;refine p.value V Y (v:=.bool (cond neg (!b) b)) ?_ (.cz (.d _ _ (.bool _))) M;have F:(eqGuard (if neg then .neq else .eql) t x (.const .nilIface) (a.eval x) .nilIface).run P w=.ok () w:=by
    rcases C with C|⟨E,H,C⟩
    all_goals simp_all[eqGuard]
   have S:binOp .eql t (a.eval x) .nilIface=(Op.equal t (a.eval x) .nilIface>>= λb=>pure (.bool b))/\binOp .neq t (a.eval x) .nilIface=(Op.equal t (a.eval x) .nilIface>>= λb=>pure (.bool (!b))):=by
    rcases C with C|⟨E,H,C⟩<;>rw[C]<;>exact⟨rfl,rfl⟩
   cases neg
   .simp at L F;simp[execOp,L,J,aCD,F,aCH,S.1,N,aCK,aDy]
   .simp at L F;simp[execOp,L,J,aCD,F,aCH,S.2,N,aCK,aC0]
  have bT:(Op.equal t .nilIface .nilIface).run P w=.ok true w:=by
   have:∀k,(Op.equalIn (k+1) t .nilIface .nilIface).run P w=.ok true w:=λk=>aBj;exact this 9999
  have h:∀E H,(Op.equal t (.iface E H) .nilIface).run P w=.ok false w:=by
   intro E H;have:∀k,(Op.equalIn (k+1) t (.iface E H) .nilIface).run P w=.ok false w:=λk=>aBj;exact this 9999
  split at j
  .rename_i E bZ ee;rw[ee]at g;have e:=g.je;generalize cg:a.eval x=B at e;cases e;simp_all
  .rename_i ee;rw[ee]at g;have e:=g.je;generalize cg:a.eval x=B at e;cases e;simp_all
  .rename_i ee;rw[ee]at g;have e:=g.je;generalize cg:a.eval x=B at e;cases e;simp_all
  .exact j.elim
 simp_all
def aC8:=@List.mem_of_getElem?
def aD3:=@List.mem_flatMap
theorem aAx(h:p:=by grind[q7,cw.length]):p:=h
theorem aAy(h:p:=by grind[df]):p:=h
theorem Rd.PK{v:Value}{d:D}(h:Rd w G v d):cw w G v.cells.toList d.cells:=by
 cases h with
 |agg vs cs h=>exact h
 |bool b=>exact .cons _ _ _ _ (.bool b) .nil
 |int k n=>exact .cons _ _ _ _ (.int k n) .nil
 |str s l h=>exact .cons _ _ _ _ (.str s l h) .nil
 |dJ=>exact .cons _ _ _ _ .dJ .nil
 |h9=>exact .cons _ _ _ _ .h9 .nil
 |lL=>exact .cons _ _ _ _ .lL .nil
 |iK=>exact .cons _ _ _ _ .iK .nil
 |fn f=>exact .cons _ _ _ _ (.fn f) .nil
 |iface t v x h=>exact .cons _ _ _ _ (.iface t v x h) .nil
 |kZ a c s=>exact .cons _ _ _ _ (.kZ a c s) .nil
 |list b off n cap sz l vs h1 e i g m=>exact .cons _ _ _ _ (.list b off n cap sz l vs h1 e i g m) .nil
 |e2 b base off vs cs h1 e=>exact .cons _ _ _ _ (.e2 b base off vs cs h1 e) .nil
 |ix t v=>exact .cons _ _ _ _ (.ix t v) .nil
 |lM b o p aGH j ks vs h1 e i g=>exact .cons _ _ _ _ (.lM b o p aGH j ks vs h1 e i g) .nil
theorem PL{vs us:List Value}{E:TypeId}{fz:Nat×Nat}{L0:Loc}{m:Nat}(c:gD w (.cells ⟨vs++us⟩ E fz) w')(f:vs.length=m)(a:∀v,v∈vs->v.oneCell'=true):jc w' (fQ w G L0 m) w.heap.size 0 vs:=by
 intro j v b;have d:j<vs.length:=az9;refine⟨?_,?_,a v (aC8 b)⟩
 .rw[aDl,cell_of_block c.new];grind
 .intro L n e;simp_all[fQ,iO]
theorem Jm{sz d:Nat}{l:List D}{vs us:List Value}{E:TypeId}{fz:Nat×Nat}{cap:Nat}(a:gD w (.cells ⟨vs++us⟩ E fz) w')(f:0<sz)(c:∀x,x∈l->x.cells.length=sz)(e:l≠[])
  (b:cw w G vs (l.flatMap D.cells)) (i:l.length<=cap) (m:(vs++us).length=cap*sz) (k:∀j,j<(vs++us).length->¬(fz.1<=j/\j<fz.2)) (g:∀v,v∈vs->v.oneCell'=true):
  dp w' (fQ w G (.slot d) (l.length*sz)) ρ (.slot d) (.slice (some ⟨w.heap.size,0,none⟩) l.length cap) (.own sz l):=by
 obtain⟨x,l,rfl⟩:=List.exists_cons_of_ne_nil e;have h:vs.length=(x::l).length*sz:=aAx;exact⟨w.heap.size,0,cap,⟨vs++us⟩,E,fz,vs,rfl,i,a.new,k,az8,f,by rw[fQ,iO,aDl],c,PL a h g,b.keep a.keeps⟩
theorem Rd.E'{v:Value}{d:D}(h:Rd w G v d)(a:jt d=true):v.oneCell'=true:=by
 cases h<;>first|rfl|grind[jt]
theorem PN{vs:List Value}{l:List D}(h:cw w G vs (l.flatMap D.cells))(g:∀d,d∈l->d.cells.all jt=true):∀v,v∈vs->v.oneCell'=true:=by
 intro v i;obtain⟨j,e,rfl⟩:=aDJ i;have b:j<(l.flatMap D.cells).length:=by grind[cw.length]
 have c:=h.get (aCB e) (aCB b);have a:=aCC b;obtain⟨d,f,a⟩:=aD3.1 a;exact c.E' ((aCQ.1 (g d f)) _ a)
theorem B9{L0:Loc}{m d:Nat}{ob:Obj}{v:Value}{x:ah}{b:ag}(p:b6 n0 gl nt w G ρ lam a st)(j:b2 gl w G ρ lam a.tmps b)(c:gD w ob w')(f:L0≠.foreign)(g:o.dst=some d)(i:d<nt)
  (k:dq w' (fQ w G L0 m) ρ lam (.slot d) v x) (e:K (b.set d x)):cP n0 gl nt w G ρ K (a.put o.dst v) w':=
 oi (c.rel (L0:=L0) (n0:=m) p.rel.lt j) p.eT p.sz i (c.good p.rel.lt f) (λ_ _ h=>h) g k e
theorem PO{sz:Nat}(p:b6 n0 gl nt w G ρ lam a st):∀{xs:List Operand} {ys:List O} {l:List D},hW (λx y=>∃t,bW P t x=some y) xs ys->elems gl st sz ys=some l->
  l.length=xs.length/\(∀x,x∈l->x.cells.length=sz)/\cw w G (xs.flatMap λx=>(a.eval x).cells.toList) (l.flatMap D.cells)/\(∀x,x∈xs->(a.eval x).cells.size=sz)/\(∀d,d∈l->d.cells.all jt=true)
 |[],_,l,h,he=>by
  cases h;simp[elems,aCz]at he;subst he;exact⟨rfl,az7,.nil,az7,az7⟩
 |x::xs,_,l,h,he=>by
  cases h with
  |cons c h=>
   rename_i y ys;obtain⟨t,c⟩:=c;simp[elems]at he;cases h1:hI (aO gl st y)with
   |none=>simp_all
   |some d=>
    cases e:elems gl st sz ys with
    |none=>simp_all
    |some k=>
     simp[h1,e]at he;cases b:(Nat.beq d.cells.length sz&&d.cells.all jt)with
     |false=>simp_all
     |true=>
      simp[b,aC0,aCz]at he;subst he;simp only[aCx]at b;have j:=aCG b.1;obtain⟨L,f⟩:=dY c p.rel;have o:=(f.hI h1).PK;obtain⟨i,g,aX,m,n⟩:=PO p h e;refine⟨az9,?_,?_,?_,?_⟩
      .simp_all
      .grind[cw.append]
      .grind[Array.length_toList,cw.length]
      grind
theorem Jo{sz:Nat}:∀(vs:List Value) (i:Nat) (a rest:List Value),a.length=i*sz->rest.length=vs.length*sz->(∀v,v∈vs->v.cells.size=sz)->
  Instr.fill (λi=>some (i*sz,sz)) ⟨a++rest⟩ ((List.range' i vs.length).zip vs)=some ⟨a++vs.flatMap λv=>v.cells.toList⟩
 |[],i,a,rest,_,d,_=>by
  have:rest=[]:=az8;subst this;rfl
 |v::vs,i,a,rest,hp,d,hs=>by
  have l:=hs v az7;simp only[aCU,aDH,aFY,Instr.fill];have f:sz<=rest.length:=by grind[Nat.add_mul]
  have o:(v.cells.size≠sz||i*sz+v.cells.size>(⟨a++rest⟩:Array Value).size)=false:=az8;have n:v.cells.zipIdx.foldl (λ(c:Array Value) (p:Value×Nat)=>c.setIfInBounds (i*sz+p.2) p.1) ⟨a++rest⟩=⟨(a++v.cells.toList)++rest.drop sz⟩:=by
   have m:∀(b:List Value) (k:Nat) (q r:List Value),q.length=i*sz+k->b.length<=r.length->
     ((b.zipIdx k).foldl (λ(c:Array Value) (p:Value×Nat)=>c.setIfInBounds (i*sz+p.2) p.1) ⟨q++r⟩)=⟨(q++b)++r.drop b.length⟩:=by
    intro b;induction b with
    |nil=>simp
    |cons u b ih=>
     intro k q r h g;cases r with
     |nil=>simp_all
     |cons y r=>
      simp only[List.zipIdx_cons,aF2];have e:(⟨q++y::r⟩:Array Value).setIfInBounds (i*sz+k) u=⟨(q++[u])++r⟩:=az8;rw[e,ih (k+1) (q++[u]) r az9 az8];simp
   grind[Array.toList_zipIdx]
  have:=Jo vs (i+1) (a++v.cells.toList) (rest.drop sz) az9 (by grind[Nat.add_mul]) (λu j=>hs u az9);simp_all
theorem ag9{d t e n len:Nat}{ps:Array (Nat×Operand)}{ys:List O}{z:List ah}(p:b6 n0 gl nt w G ρ lam a st)(r:o.dst=some d)(s:d<nt)(V:o.op=.buildSlice t len ps)
  (C:P.underlying t=some (.slice e)) (k:df P e=some n) (B:0<n) (h:zeros P e=some z) (H:ps.toList.map (·.1)=List.range len) (oq:len*n<=2^24)
  (j:hW (λx y=>∃t,bW P t x=some y) (ps.toList.map (·.2)) ys)
  (b:step (bA P gl) gl (.li d n ys) st K):o.wp P a w (cP n0 gl nt w G ρ K) Q:=by
 obtain⟨i,er,h1,M,U,L,W⟩:=om h;have di:i.size=n:=aAy;have pX:=az6;simp[step]at b;split at b
 .rename_i l aE;obtain⟨S,g,aX,Y,u⟩:=PO p j aE;have ad:ps.toList.length=len:=by have:=congrArg List.length H;grind
  have F:l.length=len:=az8;have J:ps.map (λx=>(x.1,a.eval x.2))=⟨(List.range' 0 (ps.toList.map λx=>a.eval x.2).length).zip (ps.toList.map λx=>a.eval x.2)⟩:=by
   grind[List.range_eq_range']
  have xx:∀c0:Array Value,c0.size=len*n->Instr.fill (λi=>some (i*n,n)) c0 (ps.map (λx=>(x.1,a.eval x.2))).toList=some ⟨(ps.toList.map λx=>a.eval x.2).flatMap λv=>v.cells.toList⟩:=by
   intro c0 N;have:=Jo (sz:=n) (ps.toList.map λx=>a.eval x.2) 0 [] c0.toList az7 az8 (λv hv=>az9);simp_all
  have R:((ps.toList.map λx=>a.eval x.2).flatMap λv=>v.cells.toList)=(ps.toList.map (·.2)).flatMap λx=>(a.eval x).cells.toList:=by
   generalize ps.toList=q;induction q with
   |nil=>rfl
   |cons y ys ih=>grind
  have Z:(Instr.buildSlice t len (ps.map λx=>(x.1,a.eval x.2))).run P w=.ok (.slice (some ⟨w.heap.size,0,none⟩) len len) {w with heap:=w.heap.push (.cells ⟨(ps.toList.map (·.2)).flatMap λx=>(a.eval x).cells.toList⟩ e)}:=by
   have E:¬len*n>2^24:=az6;unfold Instr.buildSlice;simp only[aCD,eN C,aCH,kA k,aEh,aCV E,aCK];simp_all[newRow,sD]
  have A:(execOp a.eval o).run P w=.ok (.value (.slice (some ⟨w.heap.size,0,none⟩) len len)) {w with heap:=w.heap.push (.cells ⟨(ps.toList.map (·.2)).flatMap λx=>(a.eval x).cells.toList⟩ e)}:=aAO;have nN:((ps.toList.map (·.2)).flatMap λx=>(a.eval x).cells.toList).length=len*n:=aAx;have f:gD w (.cells ⟨((ps.toList.map (·.2)).flatMap λx=>(a.eval x).cells.toList)++[]⟩ e) {w with heap:=w.heap.push (.cells ⟨(ps.toList.map (·.2)).flatMap λx=>(a.eval x).cells.toList⟩ e)}:=⟨az7,rfl,rfl⟩;refine gg A (B9 (L0:=.slot d) (m:=l.length*n) p p.rel f az7 r s (.mj ?_) b);by_cases c:l=[]
  .subst c;subst F;exact .cz (.nil _ _)
  .have:=Jm (ρ:=ρ) (d:=d) (cap:=len) f B g c aX az6 az8 az7 (PN aX u);simp_all
 .exact b.elim
def aCv:=@List.length_map
def aEo:=@Array.length_toList
def aDm:=@List.length_nil
def aDV:=@Nat.zero_mul
def aEp:=@Go.run_loadCells_list
def aCJ:=@List.mem_cons
theorem B'{b m:Nat}:∀{us:List Value} {k:Nat} {w:World} {c:Array Value} {E:TypeId} {fz:Nat×Nat},w.heap[b]?=some (.cells c E fz)->m+k+us.length<=c.size->
  ∃c',(w.setCells b (m+k) us).heap[b]?=some (.cells c' E fz)/\c'.size=c.size/\(∀j,j<m+k\/m+k+us.length<=j->c'[j]?=c[j]?)/\(∀j v,us[j]?=some v->c'[m+k+j]?=some v)/\
   (∀a,a≠b->(w.setCells b (m+k) us).heap[a]?=w.heap[a]?)/\(w.setCells b (m+k) us).heap.size=w.heap.size
 |[],k,w,c,E,fz,h,aE=>⟨c,h,rfl,λ_ _=>rfl,λj v l=>az8,λ_ _=>rfl,rfl⟩
 |u::us,k,w,c,E,fz,h,aE=>by
  have i:=Jd (off:=m+k) (u:=u) h;obtain⟨c',e,n,aX,o,f,g⟩:=B' (b:=b) (m:=m) (us:=us) (k:=k+1) i az9;refine⟨c',e,az8,?_,?_,?_,?_⟩
  .grind[Array.getElem?_setIfInBounds_ne]
  .intro j v l;cases j with
   |zero=>
    grind
   |succ j=>
    grind
  .intro a d;have:=f a d;exact this.trans (zN d)
  .have:=g;exact this.trans Je
theorem o5{b:Nat}:∀{us:List Value} {k:Nat} {w:World},(w.setCells b k us).os=w.os/\(w.setCells b k us).output=w.output
 |[],_,_=>⟨rfl,rfl⟩
 |u::us,k,w=>by
  have h:=o5 (b:=b) (us:=us) (k:=k+1) (w:=w.setCell ⟨b,k,none⟩ u);exact⟨h.1.trans rfl,h.2.trans rfl⟩
theorem Fb{b m m':Nat}{L L':Loc}{c c':Array Value}{E:TypeId}{fz:Nat×Nat}(y:G b=some (L,m))(Q:m<=m')(q:w.heap[b]?=some (.cells c E fz))(r:w'.heap[b]?=some (.cells c' E fz))
  (u:∀j,j<m->c'[j]?=c[j]?) (A:c.size<=c'.size) (k:∀i,i≠b->w'.heap[i]?=w.heap[i]?) (S:w'.heap.size=w.heap.size) (N:∀b L n,G b=some (L,n)->b<w.heap.size) (P:L≠.foreign) (M:L'≠.foreign) (x:w'.os=w.os) (z:w'.output=w.output):
  de w G w' (cK G b (some (L',m')))/\(∀f,f≠L->e5 f f w G w' (cK G b (some (L',m'))))/\Good w G w' (cK G b (some (L',m')))/\(∀l L n,cK G b (some (L',m')) l=some (L,n)->l<w'.heap.size):=by
 have s:de w G w' (cK G b (some (L',m'))):=by
  refine⟨?_,λe o h=> ?_,λe n h=> ?_⟩;rotate_left 2
  .obtain⟨c2,K,J,a,g⟩:=h;by_cases d:e=b
   .subst d;rw[q]at a;simp at a;obtain⟨rfl,rfl,rfl⟩:=a;exact⟨c',E,fz,r,aDn g A⟩
   .exact⟨c2,K,J,(k _ d).trans a,g⟩
  rotate_left
  .obtain⟨B,g,a⟩:=h;have d:e≠b:=az9;exact⟨by grind[nK],g,(k _ d).trans a⟩
  intro e R v h;by_cases d:e=b
  .subst d;have t:=h.2.1 _ _ y;refine⟨?_,?_,h.2.2⟩
   .rw[cell_of_block r,u _ t,<-cell_of_block q];exact h.1
   .intro H F a;grind[iO]
  .refine⟨by rw[zM (k _ d)];exact h.1,?_,h.2.2⟩;intro H F a;rw[nK _ _ d]at a;exact h.2.1 _ _ a
 have C:∀f,f≠L->e5 f f w G w' (cK G b (some (L',m'))):=by
  intro f B e n a;have d:e≠b:=az9;grind[nK]
 refine⟨s,C,⟨az6,?_,?_,?_,s,x,z⟩,?_⟩
 .intro e p a;have d:e≠b:=az9;grind[nK]
 .intro e n p a;by_cases d:e=b
  .simp_all
  .rw[nK _ _ d]at a;grind
 .intro e n p a;by_cases d:e=b
  .subst d;rw[iO]at a;simp_all
  grind[nK]
 grind[nK]
theorem jc.one{b off:Nat}{vs:List Value}(h:jc w G b off vs):∀u,u∈vs->u.oneCell'=true:=by
 intro u c;obtain⟨j,a,rfl⟩:=aDJ c;exact(h j _ (aCB a)).2.2
theorem PR(n:Nat):∀(r c:Nat),c<=n+(n+768)/4->Builtin.growBy n r c<=n+(n+768)/4
 |0,c,h=>h
 |r+1,c,h=>by
  unfold Builtin.growBy;split
  .exact h
  .refine PR n r _ ?_;rename_i a;have:c+(c+768)/4<=n+(n+768)/4:=az6;exact this
theorem nextslicecap_le{need a:Nat}(h:a<need):Builtin.nextslicecap need a<=2*need:=by
 grind[Builtin.nextslicecap,PR]
theorem ahc{v:Value}{x:ah}{sz:Nat}{l:List D}{L:Loc}(h:dq w G ρ lam L v x)(e:tJ x=some (sz,l))(J:0<sz):
  ∃us:List Value,(Builtin.lenOf v).run P w=.ok l.length w/\(Builtin.firstCells sz l.length v).run P w=.ok ⟨us⟩ w/\cw w G us (l.flatMap D.cells)/\(∀u,u∈us->u.oneCell'=true)/\(l≠[]->∀d,d∈l->d.cells.length=sz)/\
   ∀{a:World},(∀b off u,Cell w G b off u->a.cell? ⟨b,off,none⟩=some u)->(Builtin.firstCells sz l.length v).run P a=.ok ⟨us⟩ a:=by
 by_cases A:∃s,x=.d (.str s)
 .obtain⟨s,rfl⟩:=A;obtain⟨rfl,rfl⟩:=e;obtain⟨c,rfl,rfl⟩:=h.str;have k:∀a:World,(Builtin.firstCells 1 (c.data.toList.map fO).length (.string c)).run P a=.ok ⟨c.data.toList.map λb=>.int .u8 b.toNat⟩ a:=by
   intro a;simp only[Builtin.firstCells,aCv,aEo,aCK];have:(c.extract 0 c.data.size).data=c.data:=az7;congr 1;grind
  refine⟨_,?_,k w,?_,?_,?_,λ_=>k _⟩
  .simp_all[Builtin.lenOf]
  .have:(c.data.toList.map fO).flatMap D.cells=c.data.toList.map fO:=by
    generalize c.data.toList=q;induction q with
    |nil=>rfl
    |cons y ys ih=>simp[aDe,aDO,ih];rfl
   generalize c.data.toList=q;induction q with
   |nil=>exact .nil
   |cons y ys ih=>exact .cons _ _ _ _ (.int _ _) ih
  .intro u p;simp at p;obtain⟨y,_,rfl⟩:=p;rfl
  .intro _ d n;simp at n;obtain⟨y,_,rfl⟩:=n;rfl
 .have H:hJ x=some (sz,l):=by
   cases x with
   |d y=>cases y<;>first|exact e|simp_all|simp[tJ]at e
   |own=>exact e
   |gH=>exact e
   |_=>grind[tJ]
  obtain⟨f,z,rfl,K,E⟩:=(h.hJ H).slice;by_cases o:l=[]
  .subst o;refine⟨[],rfl,?_,.nil,az7,az7,λ_=> ?_⟩
   .cases f with
    |none=>rfl
    |some f=>simp[Builtin.firstCells,aDm,aDV];rfl
   .cases f with
    |none=>rfl
    |some f=>simp[Builtin.firstCells,aDm,aDV];rfl
  .obtain⟨b,off,g,rfl,C,m,t⟩:=E o;have F:g.length=l.length*sz:=aAx;have r:∀{a:World},(∀b off u,Cell w G b off u->a.cell? ⟨b,off,none⟩=some u)->(Builtin.firstCells sz l.length (.slice (some ⟨b,off,none⟩) l.length z)).run P a=.ok ⟨g⟩ a:=by
    intro a i;simp[Builtin.firstCells];rw[<-F];exact aEp (P:=P) a ⟨b,off,none⟩ g (λj v B=>by rw[aDv];exact i _ _ _ (m j v B))
   exact⟨g,rfl,r (λ_ _ _ h=>h.1),t,m.one,λ_=>C,λi=>r i⟩
def xG(P:Program)(w:World)(v:Value)(sz k:Nat)(us:List Value):Prop:=
 (Builtin.lenOf v).run P w=.ok k w/\(∀a:World,a.heap=w.heap->(Builtin.firstCells sz k v).run P a=.ok ⟨us⟩ a)/\(∀u,u∈us->u.oneCell'=true)/\us.length=k*sz
theorem Fe{b:World}(h:b.heap=w.heap)(a:Addr):b.cell? a=w.cell? a:=aA6
theorem Jp{v:Value}{x:ah}{sz:Nat}{l:List D}{L:Loc}(h:dq w G ρ lam L v x)(c:tJ x=some (sz,l))(k:0<sz):
  ∃us:List Value,xG P w v sz l.length us/\cw w G us (l.flatMap D.cells)/\∀d,d∈l->d.cells.length=sz:=by
 obtain⟨us,m,o,f,e,i,j⟩:=ahc (P:=P) h c k;have a:∀d,d∈l->d.cells.length=sz:=by
  intro d a;exact i az9 d a
 refine⟨us,⟨m,λp n=>j λb q u g=> ?_,e,aAx⟩,f,a⟩;rw[Fe n];exact g.1
theorem PS{i off len _cap sz b:Nat}{v:Value}{cs:List ah}(c:∃d,v=.slice (some ⟨b,off,none⟩) len d)(g:dC w G ρ b (.obj i) (.dk i) cs)(f:off+len*sz<=cs.length)(k:∀(us:List Value),us.length=len*sz->
   (∀j v x,us[j]?=some v->((cs.drop off).take (len*sz))[j]?=some x->dp w G ρ (.dk i (off+j)) v x)->∀u,u∈us->u.oneCell'=true):
  ∃us:List Value,xG P w v sz len us/\∀j v x,us[j]?=some v->((cs.drop off).take (len*sz))[j]?=some x->dp w G ρ (.dk i (off+j)) v x:=by
 obtain⟨d,rfl⟩:=c;obtain⟨us,a,e,aX⟩:=g.range f;refine⟨us,⟨rfl,λh l=> ?_,k us a aX,a⟩,aX⟩;simp[Builtin.firstCells];rw[<-a];exact aEp (P:=P) h ⟨b,off,none⟩ us (λj v c=>by rw[aDv,Fe l];exact e j v c)
theorem Ff{sz:Nat}(c:0<sz):∀(n:Nat) (l:List D),l.length=n*sz->l.all jt=true->(chunks sz n l).flatMap D.cells=l/\(chunks sz n l).length=n/\∀d,d∈chunks sz n l->d.cells.length=sz
 |0,l,h,_=>by
  grind[chunks]
 |n+1,l,h,h1=>by
  have i:sz<=l.length:=az9;have a:(l.drop sz).all jt=true:=az9;obtain⟨f,b,aX⟩:=Ff c n (l.drop sz) az9 a;simp only[chunks];cases hs:Nat.beq sz 1 with
  |true=>
   obtain rfl:sz=1:=aCG hs;cases l with
   |nil=>simp_all
   |cons x l=>
    have e:jt x=true:=az8;have g:x.cells=[x]:=by cases x<;>first|rfl|grind[jt]
    simp_all
  |false=>
   simp only[aDy,aDO,aCU,D.cells];refine⟨az8,by rw[b],?_⟩;intro d a;rcases aCJ.1 a with rfl|a
   .simp_all
   .exact aX d a
theorem Fg:∀{xs:List ah} {a:List D},ja xs=some a->a.length=xs.length/\∀(j:Nat) (x:ah) (d:D),xs[j]?=some x->a[j]?=some d->BI x=some d
 |[],a,h=>by grind[ja]
 |x::xs,a,h=>by
  simp[ja]at h;split at h
  .rename_i d g;split at h
   .rename_i l e;simp at h;subst h;obtain⟨i,f⟩:=Fg e;refine⟨by simp[i],λj y z c b=> ?_⟩;cases j with
    |zero=>simp at c b;subst c;subst b;exact g
    |succ j=>exact f j y z (by simpa using c) (by simpa using b)
   .simp at h
  .simp at h
theorem PT{v:Value}{x:ah}{sz:Nat}{l:List D}{L:Loc}(C:gK w G ρ st.s)(h:dq w G ρ lam L v x)(a:qY st x=some (sz,l))(o:0<sz):
  ∃us:List Value,xG P w v sz l.length us/\cw w G us (l.flatMap D.cells)/\∀d,d∈l->d.cells.length=sz:=by
 unfold qY at a;split at a
 .rename_i i off len cap c;have E:=h;cases E with
  |aP _ _ _ _ F _ b B Q aM=>
   have m:=C.at B;split at a
   .rename_i cs H;rw[H]at m;cases e:Nat.ble (off+len*c) cs.length with
    |false=>simp_all
    |true=>
     rw[e]at a;split at a
     .rename_i ds n;cases g:ds.all jt with
      |false=>simp_all
      |true=>
       rw[g]at a;simp at a;obtain⟨rfl,rfl⟩:=a;have e:=aCM e;obtain⟨R,S⟩:=Fg n;have s:ds.length=len*c:=az9;obtain⟨z,c2,A⟩:=Ff o len ds s g;have q:∀(us:List Value),us.length=len*c->(∀j v x,us[j]?=some v->((cs.drop off).take (len*c))[j]?=some x->dp w G ρ (.dk i (off+j)) v x)->cw w G us ds:=λus p f=>
        zF (LC:=λj=>.dk i (off+j)) (k:=0) az6 (λj v x K y=>by rw[aDl];exact f j v x K y) n
       obtain⟨us,M,N⟩:=PS (P:=P) (v:=.slice (some ⟨b,off,none⟩) len F) (len:=len) (sz:=c) (_cap:=cap) ⟨_,rfl⟩ m e (λus p f u J=>by
        have:=q us p f;obtain⟨j,t,rfl⟩:=aDJ J;have r:j<ds.length:=az6;exact(this.get (aCB t) (aCB r)).E' (aCQ.1 g _ (aCC r)))
       refine⟨us,az9,?_,A⟩;rw[z];exact q us M.2.2.2 N
     simp_all
   simp_all
 .exact Jp h a o
theorem dp.gT{v:Value}{x:ah}{L:Loc}(h:dp w G ρ L v x):c7 w G ρ v (gT x):=by
 unfold aG.gT;split
 .exact h
 grind[snap]
theorem Cb{v:Value}{x:ah}{sz k:Nat}{us:List ah}{L:Loc}(t:gK w G ρ st.s)(h:dq w G ρ lam L v x)(a:qX st x sz=some (us,k))(y:0<sz):
  ∃vs:List Value,xG P w v sz k vs/\cu w G ρ vs us:=by
 unfold qX at a;split at a
 .rename_i i off len cap H;have z:=h;cases z with
  |aP _ _ _ _ A _ b s K aM=>
   have d:=t.at s;split at a
   .rename_i cs B;rw[B]at d;cases hle:(Nat.beq H sz&&Nat.ble (off+len*sz) cs.length&&(((cs.drop off).take (len*sz)).map gT).all kT)with
    |false=>grind
    |true=>
     simp only[hle,aC0,aCz,aC6]at a;obtain⟨rfl,rfl⟩:=a;simp only[aCx]at hle;obtain⟨⟨C,c⟩,e⟩:=hle;have c:=aCM c;have m:∀(us:List Value),us.length=len*sz->(∀j v x,us[j]?=some v->((cs.drop off).take (len*sz))[j]?=some x->dp w G ρ (.dk i (off+j)) v x)->cu w G ρ us (((cs.drop off).take (len*sz)).map gT):=by
      grind[cu.mk,dp.gT]
     obtain⟨vs,o,J⟩:=PS (P:=P) (v:=.slice (some ⟨b,off,none⟩) len A) (len:=len) (sz:=sz) (_cap:=cap) ⟨_,rfl⟩ d c (λus F p u E=>by
      have:=m us F p;obtain⟨j,r,rfl⟩:=aDJ E;have n:j<(((cs.drop off).take (len*sz)).map gT).length:=az9;have g:=aCQ.1 e _ (aCC n);simp only[kT,aCx]at g;exact PD (this.get (aCB r) (aCB n)) g.1)
     exact⟨vs,o,m vs o.2.2.2 J⟩
   simp_all
 .split at a
  .rename_i f l q;cases au:Nat.beq f sz with
   |false=>simp_all
   |true=>
    obtain rfl:f=sz:=aCG au;simp at a;obtain⟨rfl,rfl⟩:=a;obtain⟨vs,C,c,e⟩:=Jp (P:=P) h q y;grind[cw.ER]
  simp_all
def aE6:=@List.getElem?_cons_zero
def aEq:=@List.getElem?_cons_succ
def aF3:=@Bool.not_false
def aFm:=@Go.run_newObj
def uc:TypeDesc->Bool
 |.slice _|.string=>true
 |_=>false
theorem xH{t u e sz ty n m cap:Nat}{d:TypeDesc}{base:Option Addr}{x:Value}{us:List Value}{w1:World}(a:P.underlying t=some (.slice e))(b:df P e=some sz)
  (j:P.underlying u=some d) (f:uc d=true)
  (i:(Builtin.lenOf x).run P w=.ok m w) (c:(Builtin.firstCells sz m x).run P w=.ok ⟨us⟩ w) (h:n+m<=cap)
  (k:match base with|none=>w1=w|some g=>(storeCells (g.add (n*sz)) us).run P w=.ok () w1):
  (Builtin.append_ #[t,u] ty #[.slice base n cap,x]).run P w=.ok (.slice base (n+m) cap) w1:=by
 unfold Builtin.append_;cases d<;>first
  |(simp[uc]at f;done)
  |(simp only[aDU,aE6,aEq,aCD,eN a,eN j,aCH,kA b,aCK,aDq,aCW,i,aEh,aCT h,aF3,if_true,c]
    grind[Sem.run_pure,Sem.run_bind,Result.andThen_ok])
theorem zP{t u e sz bt ty n m cap:Nat}{d:TypeDesc}{base:Option Addr}{x:Value}{us olds:List Value}{i:TypeInfo}{f:Value}(k:P.underlying t=some (.slice e))(l:df P e=some sz)(hi:P.info? e=some i)(A:i.bytes=bt)(B:i.zero=some f)
  (y:P.underlying u=some d) (q:uc d=true)
  (s:(Builtin.lenOf x).run P w=.ok m w) (p:∀a:World,a.heap=w.heap->(Builtin.firstCells sz m x).run P a=.ok ⟨us⟩ a) (v:∀a:World,a.heap=w.heap->(Builtin.firstCells sz n (.slice base n cap)).run P a=.ok ⟨olds⟩ a)
  (C:cap<n+m) (F:0<bt) (J:(n+m)*bt<=140737488355328):
  ∃b w1,(Builtin.append_ #[t,u] ty #[.slice base n cap,x]).run P w=.ok (.slice (some ⟨w.heap.size,0,none⟩) (n+m) b) w1/\n+m<=b/\
   gD w (.cells ⟨(olds++us)++(Builtin.zeroCells f.cells (b-(n+m))).toList⟩ e) w1:=by
 have h:=nextslicecap_le C;have o:¬Builtin.nextslicecap (n+m) cap*bt>2^48:=by
  have H:Builtin.nextslicecap (n+m) cap*bt<=2*(n+m)*bt:=aDi _ h;grind
 have r:¬n+m<=cap:=az6;have j:∀a:World,(typeInfo e).run P a=.ok i a:=λa=>by simp[typeInfo,aCD,hi]
 have G:¬(((n+m:Nat):Int)>IntKind.i64.max/\(False\/bt=0)):=az9;obtain⟨b,z⟩:∃c,c=Question.cut (.appendCap (n+m) cap e) (w.tape w.drawn (.appendCap (n+m) cap e)):=⟨_,rfl⟩;refine⟨b,{w with drawn:=w.drawn+1,heap:=w.heap.push (.cells ((⟨olds⟩:Array Value)++⟨us⟩++Builtin.zeroCells f.cells (b-(n+m))) e)},?_,?_,?_⟩;rotate_left
 .rw[z];exact Nat.le_add_right _ _
 .refine⟨?_,rfl,rfl⟩;show w.heap.push _=w.heap.push _;congr 2;simp
 .unfold Builtin.append_;have g:=p {w with drawn:=w.drawn+1} rfl;have E:=v {w with drawn:=w.drawn+1} rfl;cases d<;>first
   |(simp[uc]at q;done)
   |(simp only[aDU,aE6,aEq,aCD,eN k,eN y,aCH,kA l,aCK,aDq,aCW,s,aEh,aCV r,aF3,if_true,j,A,aCV o,sD hi B]
     simp only[run_choose,Question.forced,aDq,aCW,aCH,run_askRoom,aCD,E,g,newRow,aFm,aCK];simp_all)
def aEN:=@Nat.div_mul_le_self
def aFn:=@List.flatMap_append
def aEO:=@Nat.le_of_eq
def aDp:=@List.getElem?_append_right
theorem aAP(h:p:=by grind[bytesOf]):p:=h
theorem aAQ(h:p:=by grind[Builtin.zeroCells]):p:=h
theorem b2.drop{tmps:Array Value}{s:Nat}(h:b2 gl w G ρ lam tmps st):b2 gl w G ρ lam tmps (st.set s .undef) where
 aR t:=by
  simp only[ag.set,dm];by_cases a:t=s
  .simp[a,if_true];exact .cz (.undef _)
  .grind[aR]
 bM:=h.bM
 nb:=h.nb
 ob:=h.ob
 eU:=h.eU
 lt:=h.lt
theorem cw.ahe{us:List Value}(h:cw w G us []):us=[]:=by cases h;rfl
theorem Js{z:ah}{sz c:Nat}{l a:List D}(h:z=.own sz l\/(z=.gH sz/\l=[]))(b:z=iL c a):sz=c/\l=a:=by
 rcases h with rfl|⟨rfl,rfl⟩<;>cases a<;>simp[iL]at b<;>simp[b]
theorem Cc{sz:Nat}{l:List D}(h:l≠[]):iL sz l=.own sz l:=by
 cases l with
 |nil=>simp_all
 |cons _ _=>rfl
theorem PU{z0:ah}{d s t u e sz bt b':Nat}{x:Operand}{ao:TypeDesc}{z:List ah}{us:List Value}{l l2:List D}(p:b6 n0 gl nt w G ρ lam a st)(S:o.dst=some d)(U:d<nt)
  (bE:o.op=.call {callee:=.builtin .append,args:= #[.tmp s,x],argTypes:= #[t,u]}) (N:P.underlying t=some (.slice e)) (V:df P e=some sz) (gh:0<sz)
  (k4:bytesOf P e=some bt) (iQ:0<bt) (mn:b'=140737488355328/bt) (aM:zeros P e=some z) (hu:P.underlying u=some ao) (kb:uc ao=true)
  (xI:xG P w (a.eval x) sz l2.length us) (lR:cw w G us (l2.flatMap D.cells)) (gY:∀d,d∈l2->d.cells.length=sz) (mY:l.length+l2.length<=b') (aj:st.aR s=z0) (J:z0=.own sz l\/(z0=.gH sz/\l=[]))
  (B:K ((st.set s .undef).set d (cond l2.isEmpty z0 (.own sz (l++l2))))):o.wp P a w (cP n0 gl nt w G ρ K) Q:=by
 obtain⟨aQ,er,hi,oo,sI,gw,_⟩:=om aM;have o6:aQ.bytes=bt:=aAP;have xJ:er.cells.size=sz:=aAy;have Y:∀{v:Value} {w1:World},(Builtin.append_ #[t,u] o.type #[a.tmps.getD s undef,a.eval x]).run P w=.ok v w1->(execOp a.eval o).run P w=.ok (.value v) w1:=by
  intro v w1 h;have he:a.eval (.tmp s)=a.tmps.getD s undef:=rfl;simp only[execOp,bE,resolve,aCD,aCK,aCH,invoke,builtin,aEj,aDe,aD2,he,h]
 have oq:=by
  have:=aDi bt mY;rw[mn]at this;exact aDn this (aEN _ _)
 obtain⟨ad,rf,kD,tY⟩:=xI;have sG:=rf w rfl;have ou:=p.rel.aR s;rw[aj]at ou;have zS:dp w G ρ (.slot s) (a.tmps.getD s undef) z0:=by rcases J with rfl|⟨rfl,_⟩<;>exact ou
 by_cases ud:l2=[]
 ·
  subst ud;have PV:=lR.ahe;subst PV;have aP:∃g n c,a.tmps.getD s undef=.slice g n c/\n=l.length/\n<=c:=by
   rcases zS.cases with hA|⟨_,eO,q,A⟩|⟨_,_,_,q,A⟩
   .rcases J with rfl|⟨rfl,_⟩<;>cases f:a.tmps.getD s undef<;>rw[f]at hA<;>cases hA
    grind
   .obtain⟨rfl,rfl⟩:=Js J q;rcases A with⟨b,off,cap,c,ai,fz,r,L,R,_⟩|⟨rfl,g,L⟩
    all_goals grind
   simp_all
  obtain⟨g,n,c,f,aq,az⟩:=aP;have y:=xH (P:=P) (ty:=o.type) (n:=n) (m:=0) (cap:=c) (base:=g) (w1:=w) N V hu kb ad sG az6 (by cases g<;>rfl);rw[aDc,<-f]at y;rw[<-aj]at B;have aB:=Y y;exact gg aB (I3 p.rel p.eT p.sz U (Good.refl p.rel.lt) (λ_ _ h=>h) S B)
 .have hm:0<l2.length:=List.length_pos_iff.2 ud;have sA:l2.isEmpty=false:=az8;rw[sA]at B;simp at B;have ar:∀(g:Option Addr) (cap:Nat) (H:List Value),a.tmps.getD s undef=.slice g l.length cap->(∀i:World,i.heap=w.heap->(Builtin.firstCells sz l.length (.slice g l.length cap)).run P i=.ok ⟨H⟩ i)->
    cw w G H (l.flatMap D.cells)->(∀u,u∈H->u.oneCell'=true)->(∀d,d∈l->d.cells.length=sz)->cap<l.length+l2.length->o.wp P a w (cP n0 gl nt w G ρ K) Q:=by
   intro g cap H f aJ aN zR aE ay;have aR:∀i:World,i.heap=w.heap->∀b off u,Cell w G b off u->i.cell? ⟨b,off,none⟩=some u:=by
    intro i R b off u q;have:=zM (w:=w) (w':=i) (b:=b) (off:=off) (by rw[R]);rw[this];exact q.1
   obtain⟨W,w1,y,Fi,ig⟩:=zP (P:=P) (ty:=o.type) (base:=g) (x:=a.eval x) N V hi o6 oo hu kb ad rf aJ ay iQ oq;rw[<-f]at y;have gW:∀d,d∈l++l2->d.cells.length=sz:=az9;have uf:(l++l2).length=l.length+l2.length:=az7;have nO:(Builtin.zeroCells er.cells (W-(l.length+l2.length))).toList.length=(W-(l.length+l2.length))*sz:=aAQ;have Fj:H.length=l.length*sz:=aAx;refine gg (Y y) (B9 (L0:=.slot d) (m:=(l++l2).length*sz) p p.rel.drop ig az7 S U (.mj ?_) B);have:=Jm (ρ:=ρ) (d:=d) (cap:=W) ig gh gW az8 (by rw[aFn];exact aN.append lR) az6
    (by
     rw[aCF,aCF,Fj,tY,nO,<-aDx,<-aDx];simp_all)
    az7 (λv f=>az9)
   simp_all
  have gX:(l=[]/\∃g,a.tmps.getD s undef=.slice g 0 0)\/mh w G (.slot s) (a.tmps.getD s undef) sz l:=by
   rcases zS.cases with hA|⟨vL,eO,heq,A⟩|⟨_,_,_,heq,A⟩
   .left;rcases J with rfl|⟨rfl,_⟩<;>cases f:a.tmps.getD s undef<;>rw[f]at hA<;>cases hA
    simp
   .obtain⟨rfl,rfl⟩:=Js J heq;exact A.symm
   simp_all
  rcases gX with⟨rfl,g,f⟩|A
  ·
   refine ar g 0 [] f (λi _=> ?_) .nil az7 az7 az6;cases g with
   |none=>rfl
   |some g=>simp[Builtin.firstCells,aDm,aDV];rfl
  .obtain⟨b,off,cap,c,ai,fz,r,L,R,q,aZ,bN,cT,hK,gL,Z,lv⟩:=A;have nN:r.length=l.length*sz:=aAx;by_cases mZ:l.length+l2.length<=cap
   ·
    have Fk:off+l.length*sz+0+us.length<=c.size:=by
     rw[tY];have:(l.length+l2.length)*sz<=cap*sz:=aDi _ mZ;grind
    obtain⟨c',M,xK,ug,sJ,sK,sL⟩:=B' (b:=b) (m:=off+l.length*sz) (us:=us) (k:=0) q Fk;rw[aDc]at M ug sJ sK sL;obtain⟨F,E,dN,Cd⟩:=Fb (w:=w) (L':=.slot d) (m':=off+(l.length+l2.length)*sz) hK az9 q M (λj C=>ug j az6) (aEO xK.symm) sK sL p.rel.lt az7 az7 o5.1 o5.2;have uh:=aEn (P:=P) b (off+l.length*sz) us 0 w
     (λj C=>by
      rw[aDc,cell_of_block q];grind)
     (λj C=>by
      rw[aDc,tZ q];have:off+l.length*sz+j<c.size:=az6;grind)
     kD
    rw[aDc]at uh;have y:=xH (P:=P) (ty:=o.type) (n:=l.length) (m:=l2.length) (cap:=cap) (base:=some ⟨b,off,none⟩) (w1:=w.setCells b (off+l.length*sz) us) N V hu kb ad sG mZ
     (show(storeCells ((⟨b,off,none⟩:Addr).add _) us).run P w=_ by grind[Addr.add_mid])
    rw[<-L]at y;refine gg (Y y) ?_;have dn:b2 gl (w.setCells b (off+l.length*sz) us) (cK G b (some (.slot d,off+(l.length+l2.length)*sz))) ρ lam a.tmps (st.set s .undef):=by
     refine⟨λt=> ?_,?_,p.rel.nb,p.rel.ob.b0 F (λ_=>E _ az7) (λ_ _=>E _ az7),p.rel.eU.b0 F,Cd⟩
     .simp only[ag.set,dm];by_cases fK:t=s
      .simp[fK,if_true];exact .cz (.undef _)
      .simp only[fK,aCW];exact(p.rel.aR t).b0 F (λ_ _ h=>h) (λ_ _ h=>h) (E _ az9)
     .intro t cs au;obtain⟨aT,g1,g2⟩:=p.rel.bM t cs au;exact⟨aT,g1,dC.b0 F (λ_ _ h=>h) (E _ az7) (λj=>E _ az7) g2⟩
    rw[<-Cc (sz:=sz) (l:=l++l2) (by simp[ud])]at B;refine oi dn p.eT p.sz U dN (λ_ _ h=>h) S (.mj (.Pb ?_)) B;have ot:(l++l2).length=l.length+l2.length:=aCF;refine⟨b,off,cap,c',ai,fz,r++us,az7,az6,M,az9,az6,cT,?_,?_,?_,?_⟩
    .grind[iO]
    .grind
    .intro j v f;rcases aDo j r.length with C|C
     .rw[aDj C]at f;exact F.1 _ _ _ (Z j v f)
     .rw[aDp C]at f;have mo:j-r.length<us.length:=az9;refine⟨?_,?_,kD v (aC8 f)⟩
      .rw[cell_of_block M];have:=sJ (j-r.length) v f;rw[show off+l.length*sz+(j-r.length)=off+j by omega]at this;omega
      .intro jv n dh;grind[iO]
    grind[cw.append,cw.keep]
   .refine ar (some ⟨b,off,none⟩) cap r L (λi hw=> ?_) lv Z.one gL az6;simp[Builtin.firstCells];rw[<-nN];exact aEp (P:=P) i ⟨b,off,none⟩ r (λj v f=>by
     rw[aDv,zM (w:=w) (w':=i) (by rw[hw])];exact(Z j v f).1)
theorem sM{s t u:Nat}{x:Operand}{v:Value}{w1:World}(b:o.op=.call {callee:=.builtin .append,args:= #[.tmp s,x],argTypes:= #[t,u]})
  (h:(Builtin.append_ #[t,u] o.type #[a.tmps.getD s undef,a.eval x]).run P w=.ok v w1):(execOp a.eval o).run P w=.ok (.value v) w1:=by
 have c:a.eval (.tmp s)=a.tmps.getD s undef:=rfl;simp only[execOp,b,resolve,aCD,aCK,aCH,invoke,builtin,aEj,aDe,aD2,c,h]
theorem b2.zT{d:Nat}{ob:Obj}{v:Value}{x:ah}{vo:cc}(h:b2 gl w G ρ lam a.tmps st)(A:gD w ob w')(q:d<a.tmps.size)
  (C:ky w' (fQ w G (.obj st.s.length) 0) (ρ++[w.heap.size+1]) st.s.length w.heap.size vo) (m:c7 w' (fQ w G (.obj st.s.length) 0) (ρ++[w.heap.size+1]) v x):
  b2 gl w' (fQ w G (.obj st.s.length) 0) (ρ++[w.heap.size+1]) lam (a.tmps.setIfInBounds d v) ({st with s:=st.s++[vo]}.set d x):=by
 have e:∀i b:Nat,ρ[i]?=some (b+1)->(ρ++[w.heap.size+1])[i]?=some (b+1):=λi b f=>iP i _ f;have c:=A.rel (L0:=.obj st.s.length) (n0:=0) h.lt h;refine b2.set (st:={st with s:=st.s++[vo]}) ⟨λt=> ?_,?_,c.nb,⟨aA7,?_⟩,c.eU,c.lt⟩ q (.cz m)
 .exact(c.aR t).b0 (de.refl _ _) e (λ_ _ h=>h) (λb n h=>⟨rfl,h⟩)
 .intro t y k;obtain⟨b,z,l⟩:=c.bM t y k;exact⟨b,z,dC.b0 (de.refl _ _) e (λb n h=>⟨rfl,h⟩) (λj b n h=>⟨rfl,h⟩) l⟩
 .intro i b o p g;rcases E2 p with u|⟨f,B⟩
  .have r:i<st.s.length:=by
    rw[<-h.ob.1];grind
   rw[aDj r]at g;exact(c.ob.2 i b o u g).b0 (de.refl _ _) e (λb n h=>⟨rfl,h⟩) (λj b n h=>⟨rfl,h⟩)
  .obtain rfl:w.heap.size=b:=by omega
   have E:i=st.s.length:=by rw[<-h.ob.1];omega
   simp_all
theorem gK.kill{s:aY}(h:gK w G ρ s)(i:Nat):gK w G ρ (s.set i .dead):=by
 refine⟨by simpa using h.1,λj b f d a=> ?_⟩;by_cases c:j=i
 .subst c;have e:j<s.length:=az9;rw[aDf e]at a;simp at a;subst a;trivial
 .rw[aDb (aCP c)]at a;exact h.2 j b f d a
theorem b2.aw5{tmps:Array Value}(h:b2 gl w G ρ lam tmps st)(i:Nat):b2 gl w G ρ lam tmps {st with s:=st.s.set i .dead} where
 aR:=h.aR
 bM:=h.bM
 nb:=h.nb
 ob:=h.ob.kill i
 eU:=h.eU
 lt:=h.lt
def jU(i j:Nat):Loc->Loc
 |.obj k=>if k=i then .obj j else .obj k
 |.dk k c=>if k=i then .dk j c else .dk k c
 |L=>L
theorem PW{i j:Nat}{L:Loc}(b:L≠.obj i)(a:∀c,L≠.dk i c):jU i j L=L:=by
 cases L<;>simp[jU]<;>first|rfl|simp_all
theorem PX{i j:Nat}(h:∀b L n,G b=some (L,n)->b<w.heap.size):Good w G w (da (jU i j) G):=
 Ph h rfl λL a=>by
  cases L<;>simp[jU]at a<;>first|(grind)|simp at a|rfl
theorem b2.ahg{tmps:Array Value}{i b:Nat}{cs:List ah}(h:b2 gl w G ρ lam tmps st)(au:st.s.getD i .dead=.box cs)(hi:ρ[i]?=some (b+1)):
  b2 gl w (da (jU i st.s.length) G) (ρ++[b+1]) lam tmps {st with s:=st.s.set i .dead++[.box cs]}/\Good w G w (da (jU i st.s.length) G):=by
 have g:∀i m:Nat,ρ[i]?=some (m+1)->(ρ++[b+1])[i]?=some (m+1):=λi m hi=>iP i _ hi;have e:de w G w (da (jU i st.s.length) G):=kz _;have d:∀L,L≠.obj i->(∀c,L≠.dk i c)->e5 L L w G w (da (jU i st.s.length) G):=λL n l=>sv (PW n l);have x:=aBF;refine⟨⟨λt=>(h.aR t).b0 e g (λ_ _ h=>h) (d _ az7 az7),?_,h.nb,⟨aA7,?_⟩,h.eU.b0 e,sw h.lt⟩,PX h.lt⟩
 .intro t v u;obtain⟨f,n,l⟩:=h.bM t v u;exact⟨f,n,dC.b0 e g (d _ az7 az7) (λj=>d _ az7 az7) l⟩
 .intro j f ob r a;rcases E2 r with p|⟨p,A⟩
  .have y:j<st.s.length:=by
    rw[<-h.ob.1];grind
   rw[aDj az8]at a;by_cases o:j=i
   .subst o;rw[aDf y]at a;simp at a;subst a;trivial
   .rw[aDb (aCP o)]at a;exact(h.ob.2 j f ob p a).b0 e g (d _ az8 az7) (λk=>d _ az7 az8)
  .obtain rfl:b=f:=by omega
   have z:j=st.s.length:=by rw[<-h.ob.1];omega
   subst z;simp at a;subst a;have q:=o1 (w:=w) (G:=G) (jU i st.s.length) (.obj i);simp[jU,if_true]at q;refine dC.b0 e g q (λk=> ?_) x;have B:=o1 (w:=w) (G:=G) (jU i st.s.length) (.dk i k);simp_all[jU]
def aDh:=@Array.getElem?_eq_getElem
def aE7:=@List.getElem?_eq_none
def aDK:=@List.append_assoc
def aFo:=@List.size_toArray
theorem aAz(h:p:=by rw[<-p.rel.ob.1];simp):p:=h
theorem aAG(h:p:=by rw[List.length_take];omega):p:=h
theorem dC.short{b:Nat}{L:Loc}{LC:Nat->Loc}{cs:List ah}(h:dC w G ρ b L LC cs)(m:Nat):dC w G ρ b L LC (cs.take m):=by
 obtain⟨c,E,e,f,a,d,g,k⟩:=h;refine⟨c,E,e,f,a,d,az9,λj v x l i=> ?_⟩;grind
theorem b2.ahh{tmps:Array Value}{i:Nat}(h:b2 gl w G ρ lam tmps st):
  b2 gl w (da (jU i st.s.length) G) ρ lam tmps {st with s:=st.s.set i .dead}/\Good w G w (da (jU i st.s.length) G):=by
 have d:de w G w (da (jU i st.s.length) G):=kz _;have b:∀L,L≠.obj i->(∀c,L≠.dk i c)->e5 L L w G w (da (jU i st.s.length) G):=λL g f=>sv (PW g f);refine⟨⟨λt=>(h.aR t).b0 d (λ_ _ h=>h) (λ_ _ h=>h) (b _ az7 az7),?_,h.nb,⟨aA7,?_⟩,h.eU.b0 d,sw h.lt⟩,PX h.lt⟩
 .intro t o n;obtain⟨e,g,f⟩:=h.bM t o n;exact⟨e,g,dC.b0 d (λ_ _ h=>h) (b _ az7 az7) (λj=>b _ az7 az7) f⟩
 .intro j e ob m a;by_cases l:j=i
  .subst l;have p:j<st.s.length:=az9;rw[aDf p]at a;simp at a;subst a;trivial
  .rw[aDb (aCP l)]at a;exact(h.ob.2 j e ob m a).b0 d (λ_ _ h=>h) (b _ az8 az7) (λk=>b _ az7 az8)
theorem b2.ahi{tmps:Array Value}{i b:Nat}{cs xs:List ah}{us:List Value}(h:b2 gl w G ρ lam tmps st)(au:st.s.getD i .dead=.box cs)(hi:ρ[i]?=some (b+1))(Y:cu w G ρ us xs)
  (K:tP w b (cs.length+us.length)):
  b2 gl (w.setCells b cs.length us) (cK G b (some (.obj i,0))) ρ lam tmps {st with s:=st.s.set i (.box (cs++xs))}/\Good w G (w.setCells b cs.length us) (cK G b (some (.obj i,0))):=by
 have N:=aBF;obtain⟨ad,E,Q,n,af,C,Z,H⟩:=N;obtain⟨c2,ub,pY,q,z2⟩:=K;rw[n]at q;obtain⟨rfl,rfl,rfl⟩:=q;obtain⟨J,o,W,A,u,y,z⟩:=B' (b:=b) (m:=cs.length) (us:=us) (k:=0) n az6;rw[aDc]at o A u y z;obtain⟨d,a,L,F⟩:=Fb (w:=w) (L':=.obj i) (m':=0) C (aCw _) n o (λj e=>az6) (aEO W.symm) y z h.lt az7 az7 o5.1 o5.2;refine⟨⟨λt=>(h.aR t).b0 d (λ_ _ h=>h) (λ_ _ h=>h) (a _ az7),?_,h.nb,⟨aAN,?_⟩,h.eU.b0 d,F⟩,L⟩
 .intro t M B;obtain⟨f,R,S⟩:=h.bM t M B;exact⟨f,R,dC.b0 d (λ_ _ h=>h) (a _ az7) (λj=>a _ az7) S⟩
 .intro j f ob e c;by_cases p:j=i
  .subst p;rw[hi]at e;simp at e;obtain rfl:b=f:=az6;have P:j<st.s.length:=az9;rw[aDf P]at c;simp at c;subst c;refine⟨J,E,Q,o,az8,by rw[iO],aAF,λk v x r l=> ?_⟩;rcases aDo k cs.length with g|g
   .rw[aDj g]at l;rw[A k (.inl g)]at r;exact(H k v x r l).b0 d (λ_ _ h=>h) (a _ az7)
   .rw[aDp g]at l;have U:k-cs.length<us.length:=aAF;have V:=aCB U;have:=u (k-cs.length) _ V;rw[show cs.length+(k-cs.length)=k by omega]at this;grind[dp.cz,c7.keep,cu.get]
  .rw[aDb (aCP p)]at c;exact(h.ob.2 j f ob e c).b0 d (λ_ _ h=>h) (a _ az8) (λk=>a _ az7)
theorem PY{s:aY}{i:Nat}{cs:List ah}(h:s.getD i .dead=.box cs):i<s.length:=az9
theorem ahj{d s t u e sz bt b' i off len cap k:Nat}{x:Operand}{ao:TypeDesc}{z cs us:List ah}{vs:List Value}(p:b6 n0 gl nt w G ρ lam a st)(bb:o.dst=some d)(bu:d<nt)
  (bE:o.op=.call {callee:=.builtin .append,args:= #[.tmp s,x],argTypes:= #[t,u]}) (aK:P.underlying t=some (.slice e)) (L:df P e=some sz) (ar:0<sz)
  (k4:bytesOf P e=some bt) (iQ:0<bt) (mn:b'=140737488355328/bt) (aM:zeros P e=some z) (hu:P.underlying u=some ao) (kb:uc ao=true)
  (xI:xG P w (a.eval x) sz k vs) (lR:cu w G ρ vs us) (aF:len+k<=b') (aj:st.aR s=.aP i off len cap sz) (B:st.s.getD i .dead=.box cs)
  (r:cond (Nat.ble (len+k) cap)
    (Nat.ble (off+(len+k)*sz) cs.length=true/\K ({st with s:=st.s.set i (.box (putCells cs (off+len*sz) us))}.set d (.aP i off (len+k) cap sz)))
    ((Nat.beq off 0&&Nat.ble (len*sz) cs.length)=true/\K ({st with s:=st.s.set i .dead++[cc.box (cs.take (len*sz)++us)]}.set d (.aP st.s.length 0 (len+k) (len+k) sz)))):o.wp P a w (cP n0 gl nt w G ρ K) Q:=by
 obtain⟨i1,er,hi,oo,sI,gw,_⟩:=om aM;have o6:=by unfold bytesOf at k4;rw[hi]at k4;simpa using k4
 have xJ:=by unfold df at L;simp at L;omega
 have oq:=by
  have:=aDi bt aF;rw[mn]at this;exact aDn this (aEN _ _)
 obtain⟨ad,rf,kD,tY⟩:=xI;have sG:=rf w rfl;have ou:=p.rel.aR s;rw[aj]at ou;have hA:=ou;generalize l:a.tmps.getD s undef=v at hA;cases hA with
 |aP _ _ _ _ U _ b S iB tX=>
  have fu:=by have:=p.rel.ob.at S;rwa [B]at this
  have e8:=PY B;have uh:∀c E g,w.heap[b]?=some (.cells c E g)->(∀j,j<c.size->¬(g.1<=j/\j<g.2))->off+(len+k)*sz<=c.size->
    (storeCells ((⟨b,off,none⟩:Addr).add (len*sz)) vs).run P w=.ok () (w.setCells b (off+len*sz) vs):=by
   intro c E g F M V;have ay:∀j,j<vs.length->off+len*sz+j<c.size:=by
    intro j f;rw[aDx]at V;omega
   have:=aEn (P:=P) b (off+len*sz) vs 0 w
    (λj f=>by
     rw[aDc,cell_of_block F,aDh (ay j f)];rfl)
    (λj f=>by
     rw[aDc,tZ F];have:=M _ (ay j f);simp only[Bool.and_eq_false_imp,aCA,decide_eq_false_iff_not];exact λaj B=>this ⟨aj,B⟩)
    kD
   rw[aDv];exact this
  cases W:Nat.ble (len+k) cap with
  |true=>
   rw[W]at r;obtain⟨V,r⟩:=r;have V:=aCM V;have W:=aCM W;have Z:=fu;obtain⟨c,E,g,y,N,F,M,bN⟩:=Z;have q:=xH (P:=P) (ty:=o.type) (n:=len) (m:=k) (cap:=U) (base:=some ⟨b,off,none⟩) (w1:=w.setCells b (off+len*sz) vs) aK L hu kb ad sG az6 (uh c E g y N az6);rw[<-l]at q;obtain⟨J,cq⟩:=p.rel.B8 (off:=off+len*sz) S B lR;refine gg (sM bE q) (oi J p.eT p.sz bu cq (λ_ _ h=>h) bb (.cz (.aP _ _ _ _ _ _ _ S iB (cq.keep.2.2 _ _ tX))) r)
  |false=>
   rw[W]at r;obtain⟨fk,r⟩:=r;simp only[aCx]at fk;obtain rfl:off=0:=aCG fk.1;have iT:=aCM fk.2;have ui:(cs.take (len*sz)).length=len*sz:=aAG;by_cases Ju:len+k<=U
   ·
    obtain⟨c,E,g,y,N,F,M,bN⟩:=fu;obtain⟨c2,ub,pY,hl,z2⟩:=tX;rw[y]at hl;simp at hl;obtain⟨rfl,rfl,rfl⟩:=hl;have uj:(len+k)*sz<=c.size:=by
     have:=aDi sz Ju;omega
    have q:=xH (P:=P) (ty:=o.type) (n:=len) (m:=k) (cap:=U) (base:=some ⟨b,0,none⟩) (w1:=w.setCells b (0+len*sz) vs) aK L hu kb ad sG Ju (uh c E g y N az6);rw[<-l]at q;obtain⟨A,m2⟩:=p.rel.ahg B S;have m3:b2 gl w (da (jU i st.s.length) G) (ρ++[b+1]) lam a.tmps {st with s:=st.s.set i .dead++[.box (cs.take (len*sz))]}:=by
     refine⟨A.aR,A.bM,A.nb,⟨by simpa using A.ob.1,λj aT ob f cf=> ?_⟩,A.eU,A.lt⟩;rcases E2 cf with xL|⟨lS,E3⟩
     .refine A.ob.2 j aT ob f ?_;have fv:j<(st.s.set i .dead).length:=by
       rcases aDo j (st.s.set i .dead).length with dM|dM
       .exact dM
       .rw[aE7 dM]at xL;simp at xL
      show(st.s.set i .dead++[.box cs])[j]?=some ob;rw[aDj fv];exact xL
     .subst E3;have:=A.ob.2 j aT (.box cs) f (by
       show(st.s.set i .dead++[.box cs])[j]?=some (.box cs);rw[lS,aDp (aCw _)];simp)
      exact dC.short this _
    have Jv:({st with s:=st.s.set i .dead++[.box (cs.take (len*sz))]}:ag).s.getD st.s.length .dead=.box (cs.take (len*sz)):=by
     show(st.s.set i .dead++[cc.box (cs.take (len*sz))]).getD st.s.length .dead=_;rw[aC4,aDp az7];simp
    have Y:(ρ++[b+1])[st.s.length]?=some (b+1):=aAz;obtain⟨bP,bZ⟩:=m3.ahi Jv Y (lR.keep m2.keep (λi b h=>iP i _ h)) ⟨c,E,g,y,by rw[ui,tY,<-aDx];exact uj⟩;rw[ui]at bP bZ;rw[aDl]at q;have jh:(st.s.set i .dead++[cc.box (cs.take (len*sz))]).set st.s.length (.box (cs.take (len*sz)++us))=st.s.set i .dead++[cc.box (cs.take (len*sz)++us)]:=by
     rw[List.set_append_right _ _ az7];simp
    simp at bP;refine gg (sM bE q) (oi bP p.eT p.sz bu (m2.trans bZ) (λi b h=>iP i _ h) bb (.cz (.aP _ _ _ _ _ _ _ Y Ju ?_)) r);exact bZ.keep.2.2 _ _ ⟨c,E,g,y,z2⟩
   ·
    have Z:=fu;obtain⟨c,E,g,y,N,F,M,bN⟩:=Z;have PZ:(c.toList.take (len*sz)).length=len*sz:=az9;have aq:∀H:World,H.heap=w.heap->(Builtin.firstCells sz len (.slice (some ⟨b,0,none⟩) len U)).run P H=.ok ⟨c.toList.take (len*sz)⟩ H:=by
     intro H nc;simp[Builtin.firstCells];have:=aEp (P:=P) H ⟨b,0,none⟩ (c.toList.take (len*sz)) (λj v l=>by
      rw[aDv,Fe nc,aDl,cell_of_block y];grind)
     simp_all
    obtain⟨rh,w1,q,Fl,C⟩:=zP (P:=P) (ty:=o.type) (base:=some ⟨b,0,none⟩) (x:=a.eval x) aK L hi o6 oo hu kb ad rf aq az6 iQ oq;rw[<-l]at q;obtain⟨J,cq⟩:=p.rel.ahh (i:=i);have jT:(st.s.set i .dead).length=st.s.length:=az7;have Fm:=C.keeps (G:=da (jU i st.s.length) G) (L0:=.obj st.s.length) (n0:=0);have nO:(Builtin.zeroCells er.cells (rh-(len+k))).toList.length=(rh-(len+k))*sz:=aAQ;have vM:dC w1 (fQ w (da (jU i st.s.length) G) (.obj st.s.length) 0) (ρ++[w.heap.size+1]) w.heap.size (.obj st.s.length) (.dk st.s.length) (cs.take (len*sz)++us):=by
     refine⟨_,e,(0,0),C.new,az7,aAv,?_,λj v x l R=> ?_⟩
     .grind[cu.length]
     .rw[aDU]at l;rcases aDo j (len*sz)with f|f
      .rw[aDj az6,aD0,aCT f]at R;rw[aDK,aDj az6,aD0,aCT f,Array.getElem?_toList]at l;have jf:=bN j v x l R;have s2:=o1 (w:=w) (G:=G) (jU i st.s.length) (.dk i j);simp[jU,if_true]at s2;have EW:=jf.b0 (ρ':=ρ) (kz (jU i st.s.length)) (λ_ _ h=>h) s2;exact EW.b0 Fm (λi b h=>iP i _ h) (C.same (L0:=.obj st.s.length) (n0:=0) J.lt _)
      .rw[aDp az6,ui]at R;have mo:j-len*sz<vs.length:=aAF;rw[aDK,aDp az6,PZ,aDj mo]at l;exact .cz (((lR.get l R).keep (kz (jU i st.s.length)) (λ_ _ h=>h)).keep Fm (λi b h=>iP i _ h))
    have Y:(ρ++[w.heap.size+1])[st.s.length]?=some (w.heap.size+1):=aAz;have jF:=b2.zT (a:=a) (d:=d) (v:=.slice (some ⟨w.heap.size,0,none⟩) (len+k) rh) (x:=.aP st.s.length 0 (len+k) (len+k) sz) (vo:=.box (cs.take (len*sz)++us)) (st:={st with s:=st.s.set i .dead}) J C (aC2 bu p.sz)
     (by show dC _ _ _ _ (.obj (st.s.set i .dead).length) (.dk (st.s.set i .dead).length) _;simp_all)
     (by
      simp;refine .aP _ _ _ _ _ _ _ Y Fl ⟨_,e,(0,0),C.new,?_⟩;simp only[aFo,aCF,PZ,tY,nO];rw[<-aDx,<-aDx];simp_all)
    simp at jF;refine gg (sM bE q) (lx p.eT (put_defers _ _ _) aAe _ (ρ++[w.heap.size+1]) lam _ ?_ (cq.trans (C.good J.lt (L0:=.obj st.s.length) (n0:=0) az7)) (λi b h=>iP i _ h) r);rw[bb];exact jF
def aCR:=@List.map_append
theorem ahl{v:ah}{x:fb}(h:IL v=some x):v=x.val:=by
 unfold IL at h;split at h
 .simp at h;subst h;rfl
 .simp at h;subst h;rfl
 simp_all
theorem Jw:∀{us:List ah} {cs:List fb},vz us=some cs->us=jS cs
 |[],cs,h=>by simp[vz,aCz]at h;subst h;rfl
 |v::us,cs,h=>by
  simp[vz]at h;split at h
  .rename_i x xs h1 a;simp at h;subst h;rw[ahl h1,Jw a];rfl
  .simp at h
theorem ahm{v:Value}{x:fb}(h:c7 w G ρ v x.val):c7 w G ρ' v x.val:=by
 cases x with
 |d x=>cases (show c7 w G ρ v (.d x)from h)with|d _ _ h=>exact .d _ _ h
 |nil z=>cases (show c7 w G ρ v (.own z [])from h)with|nil a=>exact .nil _ _
theorem xM:∀{cs:List fb} {vs:List Value},cu w G ρ vs (jS cs)->cu w G ρ' vs (jS cs)
 |[],_,h=>by cases h;exact .nil
 |x::cs,_,h=>by cases h with|cons v _ vs _ h1 a=>exact .cons _ _ _ _ (ahm h1) (xM a)
theorem P0(cs a:List fb):jS (cs++a)=jS cs++jS a:=aCR
theorem P1{d sz e n k a:Nat}{olds vs zs:List Value}{cs b:List fb}{w1:World}(f:gD w (.cells ⟨(olds++vs)++zs⟩ e) w1)(l:n+k<=a)(i:0<sz)(g:olds.length=n*sz)(c:vs.length=k*sz)(o:zs.length=(a-(n+k))*sz)
  (p:cu w G ρ olds (jS cs)) (q:cu w G ρ vs (jS b)) (s:∀u,u∈olds->u.oneCell'=true) (r:∀u,u∈vs->u.oneCell'=true):
  pT w1 (fQ w G (.slot d) 0) (.slot d) (.slice (some ⟨w.heap.size,0,none⟩) (n+k) a) sz (n+k) (cs++b):=by
 have m:=f.keeps (G:=G) (L0:=.slot d) (n0:=0);refine⟨w.heap.size,a,_,e,(0,0),olds++vs,rfl,l,f.new,az7,?_,i,aAv,?_,λj v c=>⟨?_,?_⟩,?_⟩
 .rw[aFo,aCF,aCF,g,c,o,<-aDx,<-aDx];simp_all
 .grind
 .grind
 .grind
 .rw[P0];exact((xM p).append (xM q)).keep m (λ_ _ h=>h)
theorem ahn{d s t u e sz bt J n k:Nat}{x:Operand}{S:TypeDesc}{z us:List ah}{f:List Value}{cs Y:List fb}(p:b6 n0 gl nt w G ρ lam a st)(M:o.dst=some d)(N:d<nt)
  (L:o.op=.call {callee:=.builtin .append,args:= #[.tmp s,x],argTypes:= #[t,u]}) (H:P.underlying t=some (.slice e)) (R:df P e=some sz) (gh:0<sz)
  (k4:bytesOf P e=some bt) (iQ:0<bt) (mn:J=140737488355328/bt) (aM:zeros P e=some z) (A:P.underlying u=some S) (kb:uc S=true)
  (xI:xG P w (a.eval x) sz k f) (lR:cu w G ρ f us) (xN:vz us=some Y) (mY:n+k<=J) (aj:st.aR s=.raw sz n cs)
  (hs:K ((st.set s .undef).set d (.raw sz (n+k) (cs++Y)))):o.wp P a w (cP n0 gl nt w G ρ K) Q:=by
 obtain⟨aq,U,hi,oo,sI,gw,_⟩:=om aM;have o6:aq.bytes=bt:=aAP;have xJ:U.cells.size=sz:=aAy;have oq:=by
  have:=aDi bt mY;rw[mn]at this;exact aDn this (aEN _ _)
 obtain⟨ad,rf,C,tY⟩:=xI;have sG:=rf w rfl;obtain rfl:=Jw xN;have ou:=p.rel.aR s;rw[aj]at ou;obtain⟨b,cap,c,ai,fz,i,h1,af,y,aZ,bN,cT,hK,Z,hX,lv⟩:=(show pT w G (.slot s) (a.tmps.getD s undef) sz n cs from ou);have ao:∀u,u∈i->u.oneCell'=true:=λu A=>by
  obtain⟨j,g,rfl⟩:=aDJ A;exact(hX j _ (aCB g)).2
 by_cases E:n+k<=cap
 .have Fk:0+n*sz+0+f.length<=c.size:=by
   have:(n+k)*sz<=cap*sz:=aDi _ E;grind
  obtain⟨c',F,xK,ug,sJ,sK,sL⟩:=B' (b:=b) (m:=0+n*sz) (us:=f) (k:=0) y Fk;rw[aDc]at F ug sJ sK sL;obtain⟨l,r,dN,Cd⟩:=Fb (w:=w) (L':=.slot d) (m':=0) hK (aCw 0) y F (λj g=>absurd g (aDs j)) (aEO xK.symm) sK sL p.rel.lt az7 az7 o5.1 o5.2;have uh:=aEn (P:=P) b (0+n*sz) f 0 w
   (λj g=>by
    rw[aDc,cell_of_block y];grind)
   (λj g=>by
    rw[aDc,tZ y];have:0+n*sz+j<c.size:=az6;grind)
   C
  have q:=xH (P:=P) (ty:=o.type) (n:=n) (m:=k) (cap:=cap) (base:=some ⟨b,0,none⟩) (w1:=w.setCells b (0+n*sz) f) H R A kb ad sG E
   (show(storeCells ((⟨b,0,none⟩:Addr).add _) f).run P w=_ by grind[Addr.add_mid])
  rw[<-h1]at q;refine gg (sM L q) ?_;have dn:b2 gl (w.setCells b (0+n*sz) f) (cK G b (some (.slot d,0))) ρ lam a.tmps (st.set s .undef):=by
   refine⟨λt=> ?_,?_,p.rel.nb,p.rel.ob.b0 l (λ_=>r _ az7) (λ_ _=>r _ az7),p.rel.eU.b0 l,Cd⟩
   .simp only[ag.set,dm];by_cases W:t=s
    .simp[W,if_true];exact .cz (.undef _)
    .simp only[W,aCW];exact(p.rel.aR t).b0 l (λ_ _ h=>h) (λ_ _ h=>h) (r _ az9)
   .intro t cs au;obtain⟨aT,g1,g2⟩:=p.rel.bM t cs au;exact⟨aT,g1,dC.b0 l (λ_ _ h=>h) (r _ az7) (λj=>r _ az7) g2⟩
  refine oi dn p.eT p.sz N dN (λ_ _ h=>h) M (.mj ?_) hs;refine⟨b,cap,c',ai,fz,i++f,rfl,E,F,az9,az6,cT,iO _ _ _,?_,?_,?_⟩
  .grind
  .intro j v B;rcases aDo j i.length with g|g
   .grind
   .rw[aDp g]at B;refine⟨?_,C v (aC8 B)⟩;have:=sJ (j-i.length) v B;rw[show 0+n*sz+(j-i.length)=j by omega]at this;omega
  .rw[P0];exact(xM (lv.keep l (λ_ _ h=>h))).append (xM (lR.keep l (λ_ _ h=>h)))
 .have ay:cap<n+k:=by omega
  obtain⟨V,w1,q,Fi,ig⟩:=zP (P:=P) (ty:=o.type) (base:=some ⟨b,0,none⟩) (n:=n) (olds:=i) (cap:=cap) (x:=a.eval x) H R hi o6 oo A kb ad rf (λb5 hw=>by
   simp[Builtin.firstCells];rw[<-Z];exact aEp (P:=P) b5 ⟨b,0,none⟩ i (λj v B=>by
    rw[aDv,aDl,cell_of_block (by rw[hw];omega)];simp_all)) ay iQ oq
  rw[<-h1]at q;have nO:(Builtin.zeroCells U.cells (V-(n+k))).toList.length=(V-(n+k))*sz:=aAQ;exact gg (sM L q) (B9 (L0:=.slot d) (m:=0) p p.rel.drop ig az7 M N (.mj (show dp _ _ _ _ _ (.raw _ _ _)from P1 ig Fi gh Z tY nO (xM lv) lR ao C)) hs)
theorem pT.sj{L0:Loc}{n sz m:Nat}{v:Value}{cs:List fb}(h:pT w G L0 v sz m cs):
  ∃b cap,v=.slice (some ⟨b,0,none⟩) m cap/\m<=cap/\tP w b (0+cap*sz)/\∀ρ',dC w (da (fe L0 (.obj n)) G) ρ' b (.obj n) (.dk n) (jS cs):=by
 obtain⟨b,cap,c,E,g,s,o,e,f,k,u,y,p,z,q,r⟩:=h;have t:m*sz<=cap*sz:=aDi _ e;refine⟨b,cap,o,e,⟨c,E,g,f,az6⟩,λρ'=>⟨c,E,g,f,k,by rw[BX p,tS],?_,λj v x a l=> ?_⟩⟩
 .grind[cu.length]
 .have i:j<s.length:=by
   grind[cu.length]
  have d:=aCB i;have:=(q j _ d).1;rw[this]at a;simp at a;subst a;exact .cz ((xM (ρ':=ρ') r).get d l |>.keep (kz _) (λ_ _ h=>h))
theorem gK.snoc{L0:Loc}{s:aY}{n b:Nat}{ob:cc}(e:n=s.length)(h:∀q a o,ρ[q]?=some (a+1)->s[q]?=some o->ky w (da (fe L0 (.obj n)) G) (ρ++[b+1]) q a o)(c:ρ.length=s.length)
  (f:ky w (da (fe L0 (.obj n)) G) (ρ++[b+1]) n b ob):gK w (da (fe L0 (.obj n)) G) (ρ++[b+1]) (s++[ob]):=by
 refine⟨az9,λq a o d g=> ?_⟩;grind
theorem b2.ahp{tmps:Array Value}{s sz m:Nat}{us:List fb}(h:b2 gl w G ρ lam tmps st)(H:st.aR s=.raw sz m us):
  ∃G' b,b2 gl w G' (ρ++[b+1]) lam tmps ({st with s:=st.s++[cc.box (jS us)]}.set s (.aP st.s.length 0 m m sz))/\Good w G w G'/\c7 w G' (ρ++[b+1]) (tmps.getD s undef) (.aP st.s.length 0 m m sz):=by
 have y:=by have:=h.aR s;rw[H]at this;exact this
 obtain⟨b,K,C,r,v,p⟩:=y.sj (n:=st.s.length);have f:∀i g:Nat,ρ[i]?=some (g+1)->(ρ++[b+1])[i]?=some (g+1):=λi g F=>iP i _ F;have c:de w G w (da (fe (.slot s) (.obj st.s.length)) G):=kz _;have a:∀d,d≠.slot s->e5 d d w G w (da (fe (.slot s) (.obj st.s.length)) G):=λd A=>sv (q5 A);have E:c7 w (da (fe (.slot s) (.obj st.s.length)) G) (ρ++[b+1]) (tmps.getD s undef) (.aP st.s.length 0 m m sz):=by
  rw[C];exact .aP _ _ _ _ _ _ _ aBB r (c.2.2 _ _ v)
 refine⟨_,b,⟨λt=> ?_,?_,h.nb,?_,h.eU.b0 c,sw h.lt⟩,q6 h.lt az7 az7,E⟩
 .simp only[ag.set,dm];by_cases k:t=s
  .simp_all[dq.cz]
  .simp only[k,aCW];exact(h.aR t).b0 c f (λ_ _ h=>h) (a _ az9)
 .intro t B u;obtain⟨e,J,x⟩:=h.bM t B u;exact⟨e,J,dC.b0 c f (a _ az7) (λj=>a _ az7) x⟩
 .exact gK.snoc rfl (λq e o l z=>(h.ob.2 q e o l z).b0 c f (a _ az7) (λj=>a _ az7)) h.ob.1 (p _)
theorem b2.xk{tmps:Array Value}{i j b:Nat}{s':aY}(h:b2 gl w G ρ lam tmps st)(hi:ρ[i]?=some (b+1))(a:aG.xk st.s i j=some s'):
  ∃G' ρ',b2 gl w G' ρ' lam tmps {st with s:=s'}/\Good w G w G'/\(∀i b:Nat,ρ[i]?=some b->ρ'[i]?=some b):=by
 unfold aG.xk at a;split at a
 .rename_i cs C;split at a
  .rename_i sz m us aI;simp at a;subst a;have z:=h.ob.at hi;rw[C]at z;obtain⟨c,E,W,Y,Z,g3,g4,B⟩:=(show dC w G ρ b (.obj i) (.dk i) cs from z);have V:j<cs.length:=az9;have mo:cs[j]?=some (.raw sz m us):=az8;have H:j<c.size:=az6;have S:=PY C;have P:=B j c[j] _ (aDh H) mo;obtain⟨A,ad,h1,K,M,J⟩:=P.sj (n:=st.s.length);have p:∀i v:Nat,ρ[i]?=some (v+1)->(ρ++[A+1])[i]?=some (v+1):=λi v hi=>iP i _ hi;have e:de w G w (da (fe (.dk i j) (.obj st.s.length)) G):=kz _;have d:∀k,k≠.dk i j->e5 k k w G w (da (fe (.dk i j) (.obj st.s.length)) G):=λk R=>sv (q5 R);refine⟨_,ρ++[A+1],⟨λt=>(h.aR t).b0 e p (λ_ _ h=>h) (d _ az7),?_,h.nb,?_,h.eU.b0 e,sw h.lt⟩,q6 h.lt az7 az7,λi b h=>iP i _ h⟩
   .intro t U L;obtain⟨u,q1,N⟩:=h.bM t U L;exact⟨u,q1,dC.b0 e p (d _ az7) (λj=>d _ az7) N⟩
   .refine gK.snoc az7 (λq u o l f=> ?_) aAN (J _);by_cases F:q=i
    .subst F;rw[aDf S]at f;simp at f;subst f;rw[hi]at l;simp at l;subst l;refine⟨c,E,W,Y,Z,by grind[BX,q5],az8,λx v' Q r g=> ?_⟩;by_cases y:x=j
     .subst y;rw[aDf V]at g;simp at g;subst g;rw[aDh H]at r;simp at r;subst r;refine .cz ?_;rw[h1];exact .aP _ _ _ _ _ _ _ aBB K (e.2.2 _ _ M)
     .rw[aDb (aCP y)]at g;exact(B x v' Q r g).b0 e p (d _ az8)
    .rw[aDb (aCP F)]at f;exact(h.ob.2 q u o l f).b0 e p (d _ az7) (λx=>d _ az8)
  .simp at a;subst a;exact⟨G,ρ,h,Good.refl h.lt,λ_ _ h=>h⟩
 simp_all
theorem b2.qZ{i:Nat}{tmps:Array Value}:∀{n j b:Nat} {s s':aY} {G:bL} {ρ:List Nat},ρ[i]?=some (b+1)->b2 gl w G ρ lam tmps {st with s:=s}->aG.qZ i s j n=some s'->
  ∃G' ρ',b2 gl w G' ρ' lam tmps {st with s:=s'}/\Good w G w G'/\(∀i b:Nat,ρ[i]?=some b->ρ'[i]?=some b)
 |0,_,_,s,s',G,ρ,_,h,he=>by
  grind[aG.qZ,Good.refl,lt]
 |n+1,j,b,s,s',G,ρ,hi,h,he=>by
  simp[aG.qZ]at he;split at he
  .rename_i s1 h1;obtain⟨k,l,c,e,a⟩:=h.xk hi h1;obtain⟨g,d,cq,f,k2⟩:=b2.qZ (s:=s1) (a _ _ hi) c he;exact⟨g,d,cq,e.trans f,λi b h=>k2 i b (a i b h)⟩
  .simp at he
theorem ahq{d t:Nat}{x:Operand}{r:O}(p:b6 n0 gl nt w G ρ lam a st)(q:o.dst=some d)(u:d<nt)(F:o.op=.move x)(z:bW P t x=some r)
  (e:step (bA P gl) gl (.pL d r) st K):o.wp P a w (cP n0 gl nt w G ρ K) Q:=by
 have j:(execOp a.eval o).run P w=.ok (.value (a.eval x)) w:=aAq;rcases I4 z p.rel with⟨s,rfl,rfl⟩|⟨E,_⟩
 .simp[step]at e;split at e
  .rename_i sz m us k;obtain⟨G',b,l,y,f⟩:=p.rel.ahp k;exact gg j (oi l p.eT p.sz u y (λi b h=>iP i _ h) q (.cz f) e)
  .rename_i i off k;have f:=by have:=p.rel.aR s;rw[k]at this;exact this
   generalize B:a.tmps.getD s undef=v at f;cases f with
   |ptr _ _ b au=>
    split at e
    .rename_i cs C;split at e
     .rename_i H aX;obtain⟨G',ρ',l,y,A⟩:=b2.qZ (st:=st) au p.rel aX;refine gg j (oi l p.eT p.sz u y A q ?_ e);show dq _ _ _ _ _ (a.tmps.getD s undef) _;rw[B];exact .cz (.ptr _ _ _ (A _ _ au))
     .exact e.elim
    .exact e.elim
  .exact p.value q u (v:=a.eval (.tmp s)) j (zH z p.rel) e
 .exfalso;cases r with
  |t s=>simp_all
  |c v=>exact e
  |g n=>exact e
theorem ahr{v:Value}{sz:Nat}(h:c7 w G ρ v (.own sz [])):∃a,v=.slice a 0 0:=by
 cases h;simp
theorem Jx{nw rw:Bool}{d s t u e sz bt b':Nat}{x:Operand}{br:O}{ar:TypeDesc}{t1:Nat}{z:List ah}(p:b6 n0 gl nt w G ρ lam a st)(J:o.dst=some d)(L:d<nt)
  (H:o.op=.call {callee:=.builtin .append,args:= #[.tmp s,x],argTypes:= #[t,u]}) (ai:bW P t1 x=some br) (F:P.underlying t=some (.slice e)) (M:df P e=some sz) (q:0<sz)
  (k4:bytesOf P e=some bt) (V:0<bt) (W:b'=140737488355328/bt) (U:zeros P e=some z) (N:P.underlying u=some ar) (R:uc ar=true)
  (b:hT (bA P gl) gl nw rw d s br sz b' st K):o.wp P a w (cP n0 gl nt w G ρ K) Q:=by
 obtain⟨B5,S⟩:=dY ai p.rel;unfold hT at b;split at b
 .rename_i g l y;cases aq:(nw&&l.isEmpty)with
  |true=>
   rw[aq]at b;have aE:l=[]:=az8;subst aE;have ou:=p.rel.aR s;rw[y]at ou;obtain⟨A,C⟩:=ahr (show c7 w G ρ (a.tmps.getD s undef) (.own g [])from ou);split at b
   .rename_i aI j;obtain⟨Z,c,h⟩:=Cb (P:=P) p.rel.ob S j q;have jD:Z=[]:=by
     have:=c.2.2.2;simp_all
    subst jD;have B:=xH (P:=P) (ty:=o.type) (n:=0) (m:=0) (cap:=0) (base:=A) (w1:=w) F M N R c.1 (c.2.1 w rfl) (aCw _) (by cases A<;>rfl);rw[<-C]at B;exact p.value J L (sM H B) (by rw[C];exact .cz (.nil _ _)) b
   .rename_i cs k ld j;cases rw with
    |true=>
     split at b
     rotate_left
     .exact b.elim
     rename_i gC aX;obtain⟨f,b⟩:=b;simp only[aCx]at f;obtain⟨r,i⟩:=f;obtain rfl:g=sz:=aCG r;have i:=aCM i;obtain⟨Z,c,h⟩:=Cb (P:=P) p.rel.ob S j q;obtain rfl:=Jw aX;obtain⟨i1,er,hi,oo,sI,gw,_⟩:=om U;have o6:i1.bytes=bt:=aAP;have xJ:er.cells.size=g:=aAy;have oq:(0+k)*bt<=140737488355328:=by
      rw[aDl];have:=aDi bt i;rw[W]at this;exact aDn this (aEN _ _)
     have o7:0<k:=az9;obtain⟨Y,w1,B,Fl,E⟩:=zP (P:=P) (ty:=o.type) (n:=0) (olds:=[]) (cap:=0) (base:=A) (x:=a.eval x) F M hi o6 oo N R c.1 c.2.1
      (λb5 _=>by
       cases A with
       |none=>rfl
       |some A=>simp[Builtin.firstCells,aDV];rfl) az6 V oq
     rw[<-C]at B;have nO:(Builtin.zeroCells er.cells (Y-(0+k))).toList.length=(Y-(0+k))*g:=aAQ;have jF:=P1 (G:=G) (ρ:=ρ) (d:=d) (n:=0) (cs:=[]) E Fl q az7 c.2.2.2 nO .nil h az7 c.2.2.1;rw[aDL]at jF;refine gg (sM H B) (B9 (L0:=.slot d) (m:=0) p p.rel E az7 J L (.mj (show dp _ _ _ _ _ (.raw g k gC)from ?_)) b);have bB:=aDl k;rw[bB]at jF;show pT _ _ _ (.slice _ (0+k) _) _ _ _;simp_all
    |false=>
     simp at b;obtain⟨f,b⟩:=b;simp only[aCx]at f;obtain⟨r,i⟩:=f;obtain rfl:g=sz:=aCG r;have i:=aCM i;obtain⟨Z,c,h⟩:=Cb (P:=P) p.rel.ob S j q;obtain⟨i1,er,hi,oo,sI,gw,_⟩:=om U;have o6:i1.bytes=bt:=aAP;have xJ:er.cells.size=g:=aAy;have oq:(0+k)*bt<=140737488355328:=by
      rw[aDl];have:=aDi bt i;rw[W]at this;exact aDn this (aEN _ _)
     have o7:0<k:=az9;obtain⟨Y,w1,B,Fl,E⟩:=zP (P:=P) (ty:=o.type) (n:=0) (olds:=[]) (cap:=0) (base:=A) (x:=a.eval x) F M hi o6 oo N R c.1 c.2.1
      (λb5 _=>by
       cases A with
       |none=>rfl
       |some A=>simp[Builtin.firstCells,aDV];rfl) az6 V oq
     rw[<-C]at B;have Fm:=E.keeps (G:=G) (L0:=.obj st.s.length) (n0:=0);have nO:(Builtin.zeroCells er.cells (Y-(0+k))).toList.length=(Y-(0+k))*g:=aAQ;have sN:(ρ++[w.heap.size+1])[st.s.length]?=some (w.heap.size+1):=aAz;have jF:=b2.zT (a:=a) (d:=d) (v:=.slice (some ⟨w.heap.size,0,none⟩) (0+k) Y) (x:=.aP st.s.length 0 k k g) (vo:=.box cs) p.rel E (aC2 L p.sz)
      (by
       refine⟨_,e,(0,0),E.new,az7,aAv,?_,λaB v x C ai=> ?_⟩
       .rw[<-h.length,c.2.2.2];simp only[aFo,aCF,aDL,c.2.2.2];omega
       .rw[aDU,aDL]at C;have mo:aB<Z.length:=aAF;rw[aDj mo]at C;exact .cz ((h.get C ai).keep Fm (λad ay ao=>iP ad _ ao)))
      (by
       rw[aDl];refine .aP _ _ _ _ _ _ _ sN az6 ⟨_,e,(0,0),E.new,?_⟩;simp only[aFo,aCF,aDL,c.2.2.2,nO];rw[<-aDx];simp_all)
     refine gg (sM H B) (lx p.eT (put_defers _ _ _) aAe _ (ρ++[w.heap.size+1]) lam _ ?_ (E.good p.rel.lt (L0:=.obj st.s.length) (n0:=0) az7) (λad ay ao=>iP ad _ ao) b);rw[J];exact jF
   .exact b.elim
  |false=>
   rw[aq]at b;simp at b;split at b
   .rename_i dz l2 j;obtain⟨f,b⟩:=b;simp only[aCx]at f;obtain⟨⟨r,i⟩,mY⟩:=f;obtain rfl:g=sz:=aCG r;obtain rfl:dz=g:=aCG i;obtain⟨us,c,h,av⟩:=PT (P:=P) p.rel.ob S j q;exact PU p J L H F M q k4 V W U N R c h av (aCM mY) y (.inl rfl) az9
   .exact b.elim
 .rename_i g n cs y;split at b
  .rename_i us k j;split at b
   .rename_i gC aX;obtain⟨f,b⟩:=b;simp only[aCx]at f;obtain rfl:g=sz:=aCG f.1;obtain⟨Z,c,h⟩:=Cb (P:=P) p.rel.ob S j q;exact ahn p J L H F M q k4 V W U N R c h aX (aCM f.2) y b
   .exact b.elim
  .exact b.elim
 .rename_i ad off len cap g y;split at b
  .rename_i cs us k j aX;obtain⟨f,b⟩:=b;simp only[aCx]at f;obtain⟨r,i⟩:=f;obtain rfl:g=sz:=aCG r;obtain⟨Z,c,h⟩:=Cb (P:=P) p.rel.ob S aX q;exact ahj p J L H F M q k4 V W U N R c h (aCM i) y j b
  .exact b.elim
 .rename_i g y;split at b
  .rename_i dz l2 j;obtain⟨f,b⟩:=b;simp only[aCx]at f;obtain⟨⟨r,i⟩,mY⟩:=f;obtain rfl:g=sz:=aCG r;obtain rfl:dz=g:=aCG i;obtain⟨us,c,h,av⟩:=PT (P:=P) p.rel.ob S j q;exact PU (l:=[]) p J L H F M q k4 V W U N R c h av az8 y (.inr ⟨rfl,rfl⟩) (by
    cases l2 with
    |nil=>exact b
    |cons _ _=>exact b)
  .exact b.elim
 .exact b.elim
def aCX:=@Bool.not_eq_true'
def aDQ:=@List.length_drop
theorem P4{b k:Nat}(e:G b=some (.obj k,0)):de w G w (cK G b none):=by
 refine⟨λx f v a=>⟨a.1,λL n c=> ?_,a.2.2⟩,λx o d=>⟨?_,d.2⟩,λ_ _ h=>h⟩
 .simp only[dm]at c;split at c
  .simp_all
  .exact a.2.1 L n c
 .simp only[dm];split
  .rfl
  .exact d.1
theorem ahs{b k:Nat}(h:G b=some (.obj k,0)){L:Loc}(c:L≠.obj k):e5 L L w G w (cK G b none):=by
 intro x n a;refine⟨rfl,?_⟩;simp[dm];grind
theorem aht{b k:Nat}(c:∀b L n,G b=some (L,n)->b<w.heap.size)(h:G b=some (.obj k,0)):Good w G w (cK G b none) where
 size:=aCw _
 iN x _ ai:=by
  grind[dm]
 new x n ai a:=by
  grind[dm]
 old x n _ a:=by
  grind[dm]
 keep:=P4 h
 os:=rfl
 out:=rfl
theorem b2.pN{k:Nat}{y:D}{x:ah}{v:Value}{tmps:Array Value}(h:b2 gl w G ρ lam tmps st)(o:c7 w G ρ v x)(a:aG.pN st.s x=some (y,k)):
  ∃G',b2 gl w G' ρ lam tmps {st with s:=st.s.set k .dead}/\Good w G w G'/\Rd w G' v y:=by
 unfold aG.pN at a;split at a
 .rename_i i off len cap sz;cases o with
  |aP _ _ _ _ et _ F K Y tX=>
   have r:=h.ob.at K;split at a
   .rename_i bs uk;rw[uk]at r;have C:=r;cases b:(Nat.ble len cap&&Nat.blt 0 sz&&Nat.ble (off+len*sz) bs.length)with
    |false=>simp_all
    |true=>
     rw[b]at a;simp only[aCx]at b;have q9:=aCM b.1.1;have R:=aCM b.1.2;have W:=aCM b.2;split at a
     .rename_i l A;cases n:l.all jt with
      |false=>simp_all
      |true=>
       rw[n]at a;simp at a;obtain⟨rfl,rfl⟩:=a;obtain⟨f1,_⟩:=Fg A;have J:l.length=len*sz:=az9;obtain⟨c1,c2,Q⟩:=Ff R len l J n;obtain⟨p,fw,S,V⟩:=C.range W;have Z:cw w G p l:=zF (LC:=λj=>.dk i (off+j)) (k:=0) az6 (λj v x o N=>by rw[aDl];exact V j v x o N) A;obtain⟨_,_,_,_,_,m,_,_⟩:=C;have f:=P4 (w:=w) m;have d:∀{L:Loc},L≠.obj i->e5 L L w G w (cK G F none):=λB=>ahs m B;refine⟨cK G F none,⟨λt=>(h.aR t).b0 f (λ_ _ h=>h) (λ_ _ h=>h) (d az7),?_,h.nb,⟨aAN,?_⟩,h.eU.b0 f,?_⟩,aht h.lt m,?_⟩
       .intro t U M;obtain⟨e,q1,P⟩:=h.bM t U M;exact⟨e,q1,dC.b0 f (λ_ _ h=>h) (d az7) (λj=>d az7) P⟩
       .intro q e ob z c;have sO:q<st.s.length:=az9;by_cases u:q=i
        .subst u;rw[aDf sO]at c;simp at c;subst c;trivial
        .rw[aDb (aCP u)]at c;exact(h.ob.2 q e ob z c).b0 f (λ_ _ h=>h) (d az9) (λj=>d az7)
       .intro e L ad g;simp only[dm]at g;split at g
        .grind
        .exact h.lt _ _ _ g
       .refine .list _ _ _ _ _ _ p c2.symm (aDn q9 Y) Q (λq ao E=>⟨S q ao E,λL ad B=> ?_,?_⟩) (by grind[cw.keep])
        .grind[dm]
        .have z:q<p.length:=by
          grind
         have H:q<l.length:=az6;exact(Z.get E (aCB H)).E' (aCQ.1 n _ (aCC H))
     simp_all
   simp_all
 simp_all
theorem P6{b k d m:Nat}(h:G b=some (.obj k,0)):de w G w (cK G b (some (.slot d,m))):=by
 refine⟨λx g v a=>⟨a.1,λL n f=> ?_,a.2.2⟩,λx o c=>⟨?_,c.2⟩,λ_ _ h=>h⟩
 .by_cases e:x=b
  .subst e;have:=a.2.1 _ _ h;omega
  .simp[dm,aCV e]at f;exact a.2.1 L n f
 .have e:x≠b:=λe=>by have:=c.1;simp_all
  simp[dm,aCV e];exact c.1
theorem ahu{b k d m:Nat}(h:G b=some (.obj k,0)){L:Loc}(c:L≠.obj k):e5 L L w G w (cK G b (some (.slot d,m))):=by
 intro x n a;refine⟨rfl,?_⟩;have e:x≠b:=λe=>az8;simp_all[dm]
theorem ahv{b k d m:Nat}(c:∀b L n,G b=some (L,n)->b<w.heap.size)(h:G b=some (.obj k,0)):Good w G w (cK G b (some (.slot d,m))) where
 size:=aCw _
 iN x _ ai:=by
  have e:x≠b:=λe=>az8;simp_all[dm]
 new x n ai a:=by
  by_cases e:x=b
  .grind
  .simp[dm,aCV e]at a;grind
 old x n _ a:=by
  by_cases e:x=b;all_goals simp_all[dm]
 keep:=P6 h
 os:=rfl
 out:=rfl
theorem b2.ahw{k d:Nat}{y:D}{x:ah}{v:Value}{tmps:Array Value}(h:b2 gl w G ρ lam tmps st)(u:c7 w G ρ v x)(a:aG.pN st.s x=some (y,k)):
  ∃G' sz l,y=.list sz l/\b2 gl w G' ρ lam tmps {st with s:=st.s.set k .dead}/\Good w G w G'/\mh w G' (.slot d) v sz l:=by
 unfold aG.pN at a;split at a
 .rename_i o off len cap sz;cases u with
  |aP _ _ _ _ et _ z U iB tX=>
   have B:=h.ob.at U;split at a
   .rename_i bs uk;rw[uk]at B;have M:=B;cases b:(Nat.ble len cap&&Nat.blt 0 sz&&Nat.ble (off+len*sz) bs.length)with
    |false=>simp_all
    |true=>
     rw[b]at a;simp only[aCx]at b;have q9:=aCM b.1.1;have K:=aCM b.1.2;have ad:=aCM b.2;split at a
     .rename_i l H;cases r:l.all jt with
      |false=>simp_all
      |true=>
       rw[r]at a;simp at a;obtain⟨rfl,rfl⟩:=a;obtain⟨f1,_⟩:=Fg H;have S:l.length=len*sz:=az9;obtain⟨c1,c2,Z⟩:=Ff K len l S r;obtain⟨A,fw,eY,fa⟩:=M.range ad;have kC:cw w G A l:=zF (LC:=λj=>.dk o (off+j)) (k:=0) az6 (λj v x u W=>by rw[aDl];exact fa j v x u W) H;obtain⟨c,E,fz,N,g2,p,g4,_⟩:=M;obtain⟨ar,ub,pY,P,z2⟩:=tX;rw[N]at P;obtain⟨rfl,rfl,rfl⟩:=P;have i:=P6 (w:=w) (d:=d) (m:=off+len*sz) p;have f:∀{L:Loc},L≠.obj o->e5 L L w G w (cK G z (some (.slot d,off+len*sz))):=λJ=>ahu p J;refine⟨cK G z (some (.slot d,off+len*sz)),sz,_,rfl,⟨λt=>(h.aR t).b0 i (λ_ _ h=>h) (λ_ _ h=>h) (f az7),?_,h.nb,⟨aAN,?_⟩,h.eU.b0 i,?_⟩,ahv h.lt p,?_⟩
       .intro t ei V;obtain⟨g,q1,Y⟩:=h.bM t ei V;exact⟨g,q1,dC.b0 i (λ_ _ h=>h) (f az7) (λj=>f az7) Y⟩
       .intro q g ob F e;have sO:q<st.s.length:=az9;by_cases C:q=o
        .subst C;rw[aDf sO]at e;simp at e;subst e;trivial
        .rw[aDb (aCP C)]at e;exact(h.ob.2 q g ob F e).b0 i (λ_ _ h=>h) (f az9) (λj=>f az7)
       .intro g L ao n;simp[dm]at n;split at n
        .grind
        .exact h.lt _ _ _ n
       .refine⟨z,off,et,c,E,fz,A,by rw[c2],az6,N,g2,z2,K,by rw[iO,c2],Z,λq aq Q=>⟨eY q aq Q,λL ao J=> ?_,?_⟩,by grind[cw.keep]⟩
        .grind[iO]
        .have F:q<A.length:=by
          grind
         have R:q<l.length:=az6;exact(kC.get Q (aCB R)).E' (aCQ.1 r _ (aCC R))
     simp_all
   simp_all
 simp_all
theorem b2.BL{i j b:Nat}{s':aY}{tmps:Array Value}(h:b2 gl w G ρ lam tmps st)(hi:ρ[i]?=some (b+1))(a:aG.BL st.s i j=some s'):
  ∃G',b2 gl w G' ρ lam tmps {st with s:=s'}/\Good w G w G':=by
 unfold aG.BL at a;split at a
 .rename_i cs L;split at a
  .rename_i k off len cap sz ld;split at a
   .rename_i y k1 v;cases Q:Nat.beq k1 i with
    |true=>simp_all
    |false=>
     rw[Q]at a;simp at a;subst a;have Z:k1≠i:=λad=>az8;have n:=h.ob.at hi;rw[L]at n;have B:=n;obtain⟨c,E,H,o,A,U,S,C⟩:=B;have x:j<cs.length:=az9;have R:cs[j]?=some (.aP k off len cap sz):=az8;have r:j<c.size:=az6;have N:=C j c[j] _ (aDh r) R;have t:=N;obtain⟨G',d,J,F⟩:=h.pN t v;refine⟨G',⟨d.aR,d.bM,d.nb,⟨aAN,?_⟩,d.eU,d.lt⟩,J⟩;intro q z ob f e;have sO:q<st.s.length:=az9;by_cases p:q=i
     .subst p;rw[aDf az8]at e;simp at e;subst e;rw[hi]at f;simp at f;subst f;have M:=d.ob.2 q b (.box cs) hi az8;obtain⟨Y,V,p0,m,k2,K,ow,ri⟩:=(show dC w G' ρ b (.obj q) (.dk q) cs from M);rw[o]at m;obtain⟨rfl,rfl,rfl⟩:=m;refine⟨c,E,H,o,A,K,az8,λP v' W l g=> ?_⟩;by_cases u:P=j
      .subst u;rw[aDf x]at g;simp at g;subst g;rw[aDh r]at l;simp at l;subst l;exact dp.cz (.d _ _ F)
      grind
     .rw[aDb (aCP p)]at e;exact d.ob.2 q z ob f e
   simp_all
  .simp at a;subst a;exact⟨G,h,Good.refl h.lt⟩
 simp_all
theorem b2.tL{i b:Nat}{tmps:Array Value}(hi:ρ[i]?=some (b+1)):∀{n j:Nat} {s s':aY} {G:bL},b2 gl w G ρ lam tmps {st with s:=s}->aG.tL i s j n=some s'->
  ∃G',b2 gl w G' ρ lam tmps {st with s:=s'}/\Good w G w G'
 |0,_,s,s',G,h,he=>by
  grind[aG.tL,Good.refl,lt]
 |n+1,j,s,s',G,h,he=>by
  simp[aG.tL]at he;split at he
  .rename_i s1 h1;obtain⟨f,a,c⟩:=h.BL hi h1;obtain⟨e,cq,d⟩:=b2.tL hi (s:=s1) a he;exact⟨e,cq,c.trans d⟩
  .simp at he
theorem ahy{d t n E:Nat}{x:Operand}{g:O}(p:b6 n0 gl nt w G ρ lam a st)(u:o.dst=some d)(y:d<nt)(F:o.op=.load t x)(m:bW P E x=some g)
  (l:df P t=some n) (B:kW P t=some true) (c:step (bA P gl) gl (.aM d g n) st K):o.wp P a w (cP n0 gl nt w G ρ K) Q:=by
 obtain⟨J,e⟩:=dY m p.rel;simp[step]at c;split at c
 .rename_i i off q;rw[q]at e;have j:=e;cases z:a.eval x<;>rw[z]at j<;>cases j;rename_i b au;split at c
  .rename_i L k;obtain⟨G',f,cq⟩:=b2.tL (st:=st) (s:=st.s) au p.rel k;split at c
   .rename_i cs aX;obtain⟨r,c⟩:=c;have C:ky w G' ρ i b (.box cs):=by have:=f.ob.at au;simp_all
    obtain⟨v,H,A⟩:=B6 (show dC w G' ρ b (.obj i) (.dk i) cs from C) (aCM r) l B (λh=>az9);refine gg (v:=v) ?_ (oi f p.eT p.sz y cq (λ_ _ h=>h) u (.cz A) c);grind[execOp,Sem.run_bind,Result.andThen_ok,Sem.run_pure]
   .exact c.elim
  .exact c.elim
 .exact c.elim
theorem ahz{d t:Nat}{own:Bool}{x:Operand}{q:O}(p:b6 n0 gl nt w G ρ lam a st)(e:o.dst=some d)(f:d<nt)(u:o.op=.assign x)(n:bW P t x=some q)
  (b:step (bA P gl) gl (.nH d own q) st K):o.wp P a w (cP n0 gl nt w G ρ K) Q:=by
 simp[step]at b;split at b
 .rename_i k off len cap sz s;split at b
  .rename_i y k1 j;obtain⟨z,m⟩:=dY n p.rel;rw[s]at m;have r:=m;cases own with
   |false=>
    obtain⟨G',c,i,g⟩:=p.rel.pN r j;exact gg (v:=a.eval x) aAq (oi c p.eT p.sz f i (λ_ _ h=>h) e (.cz (.d _ _ g)) b)
   |true=>
    obtain⟨G',A,l,rfl,c,i,g⟩:=p.rel.ahw (d:=d) r j;exact gg (v:=a.eval x) aAq (oi c p.eT p.sz f i (λ_ _ h=>h) e (.mj (.Pb g)) b)
  .exact b.elim
 .exact Pj p e f u n (by simp_all[step])
theorem ahA{A:Array Value}{d:Nat}{x y:Value}:(A.setIfInBounds d x).setIfInBounds d y=A.setIfInBounds d y:=az7
theorem ahB{d s t e sz:Nat}{lo:Operand}{u:O}(p:b6 n0 gl nt w G ρ lam a st)(Y:o.dst=some d)(C:d<nt)(W:o.op=.slice t (.tmp s) (some lo) none none)(aE:bW P 0 lo=some u)
  (hu:P.underlying t=some (.slice e)) (J:df P e=some sz) (g:step (bA P gl) gl (.so d s sz u) st K):o.wp P a w (cP n0 gl nt w G ρ K) Q:=by
 simp[step]at g;split at g
 .rename_i z l k n y aC;obtain⟨v,g⟩:=g;simp only[aCx,aCA,aCX,List.isEmpty_eq_false_iff]at v;obtain⟨⟨⟨R,lT⟩,fk⟩,i⟩:=v;obtain rfl:z=sz:=aCG R;have V:=tW (P:=P) p (z:=some lo) (z':=some u) (dflt:=0) (n:=n) (by grind[og]) (by grind[bound]) lT;have F:=p.rel.take (aC2 C p.sz) (s:=s);have dN:=q6 (s:=.slot s) (d:=.slot d) p.rel.lt az7 az7;have q:=F.aR d;rw[y]at q;have ao:=aC2 C p.sz;have S:(a.tmps.setIfInBounds d (a.tmps.getD s undef)).getD d undef=a.tmps.getD s undef:=az8;have eC:((st.set s .undef).set d (.own z l)).aR d=.own z l:=by simp[ag.set,dm]
  rw[S,eC]at q;have zS:dp w (da (fe (.slot s) (.slot d)) G) ρ (.slot d) (a.tmps.getD s undef) (iL z l):=by rw[Cc i];exact q
  rcases zS.cases with hA|⟨vL,eO,B,H⟩|⟨_,_,_,B,_⟩
  rotate_left 2
  .grind[Cc]
  .rw[Cc i]at hA;cases j:a.tmps.getD s undef<;>rw[j]at hA<;>cases hA;simp_all
  .obtain⟨rfl,rfl⟩:=Js (.inl rfl) ((Cc i).symm.trans B);obtain⟨b,f,cap,c,E,fz,vs,h1,N,U,M,bN,Z,hK,gL,hX,lv⟩:=H.elim id λh=>absurd h.1 i;have A:n.toNat<=l.length:=az6;have ar:n.toNat*z<=cap*z:=aDi _ az6;have ai:(cap-n.toNat)*z=cap*z-n.toNat*z:=Nat.sub_mul _ _ _;have P2:n.toNat*z<=l.length*z:=aDi _ A;have jT:(l.length-n.toNat)*z=l.length*z-n.toNat*z:=Nat.sub_mul _ _ _;have rj:(l.drop n.toNat).length=l.length-n.toNat:=aDQ;have oj:=E0 (P:=P) (w:=w) (isSlice:=true) (len:=l.length) (cap:=cap) (lo:=some (a.eval lo)) (hi:=none) (mx:=none) (l:=n.toNat) (h:=l.length) (m:=cap) V (.inl ⟨rfl,rfl⟩) (.inl ⟨rfl,rfl⟩) A N (aCw _) az7;have sE:a.eval (.tmp s)=.slice (some ⟨b,f,none⟩) l.length cap:=h1;have dA:(execOp a.eval o).run P w=.ok (.value (.slice (if cap=n.toNat then some ⟨b,f,none⟩else some ((⟨b,f,none⟩:Addr).add (n.toNat*z))) (l.length-n.toNat) (cap-n.toNat))) w:=by
    simp[execOp,W,sE,Instr.sliceAt,Instr.slice,aCD,eN hu,aCH,aDD,Option.map_none,oj,aCK,kA J]
   have nQ:mh w (da (fe (.slot s) (.slot d)) G) (.slot d) (.slice (some ⟨b,f+n.toNat*z,none⟩) (l.length-n.toNat) (cap-n.toNat)) z (l.drop n.toNat):=by
    refine⟨b,f+n.toNat*z,cap-n.toNat,c,E,fz,vs.drop (n.toNat*z),az7,az6,U,M,az6,Z,?_,λad L=>gL ad (List.mem_of_mem_drop L),?_,?_⟩
    .grind
    .intro ay aB j;rw[aDP]at j;have:=hX _ _ j;grind
    simp_all[Ja,cw.drop]
   have fj:su w (da (fe (.slot s) (.slot d)) G) (.slot d) (.slice (if cap=n.toNat then some ⟨b,f,none⟩else some ((⟨b,f,none⟩:Addr).add (n.toNat*z))) (l.length-n.toNat) (cap-n.toNat)) z (l.drop n.toNat):=by
    by_cases az:cap=n.toNat
    .right;simp_all
    .left;simp_all[aDv]
   have r:=F.set (d:=d) (x:=iL z (l.drop n.toNat)) az8 (.mj (.zE fj));have aX:((st.set s .undef).set d (.own z l)).set d (iL z (l.drop n.toNat))=(st.set s .undef).set d (iL z (l.drop n.toNat)):=by
    unfold ag.set;congr 1;grind[dm]
   rw[y,aX]at r;rw[ahA]at r;refine gg dA (lx p.eT (put_defers _ _ _) aAe _ ρ lam _ (by rw[Y];exact r) dN (λ_ _ h=>h) g)
 .exact g.elim
theorem ahF{d s t e M:Nat}{x:Operand}{k:O}(p:b6 n0 gl nt w G ρ lam a st)(H:o.dst=some d)(J:d<nt)(F:o.op=.convert s t x)(C:bW P M x=some k)
  (z:P.underlying s=some .string) (N:P.underlying t=some (.slice e)) (A:P.underlying e=some (.int .u8))
  (h:step (bA P gl) gl (.gI d k) st K):o.wp P a w (cP n0 gl nt w G ρ K) Q:=by
 obtain⟨U,l⟩:=dY C p.rel;simp[step]at h;split at h
 .rename_i q E;rw[E]at l;obtain⟨f,R,rfl⟩:=l.str;obtain⟨cap,u⟩:∃c,c=Question.cut (.appendCap f.size 0 e) (w.tape w.drawn (.appendCap f.size 0 e)):=⟨_,rfl⟩;have L:f.size<=cap:=by rw[u];exact Nat.le_add_right _ _
  let g:Array Value:=f.data.map λb=>.int .u8 b.toNat;let ob:Obj:=.cells (g++Array.replicate (cap-f.size) (Value.int .u8 0)) e (cap,cap+1);have S:(g++Array.replicate (cap-f.size) (Value.int .u8 0)).size=cap:=by
   simp[g,Array.size_append,Array.size_map,Array.size_replicate];simp_all
  have B:(execOp a.eval o).run P w=.ok (.value (.slice (some ⟨w.heap.size,0,none⟩) f.size cap)) {w with drawn:=w.drawn+1,heap:=w.heap.push ob}:=by
   simp only[execOp,F,R,convert,aCD,eN z,eN N,eN A,aCH,Conv.stringToBytes,run_choose,Question.forced,aDq,aCW,newRow,aFm,aCK,markStringish,run_shape];rw[<-u];have i:(World.shape? {w with drawn:=w.drawn+1,heap:=w.heap.push (.cells (g++Array.replicate (cap-f.size) (.int .u8 0)) e (0,0))} w.heap.size)=some (e,cap):=by
    grind[World.shape?]
   simp[g]at i;simp[i,aCH,run_freeze];unfold World.freeze;simp;grind
  have V:(g++Array.replicate (cap-f.size) (Value.int .u8 0))=⟨(f.data.toList.map λb=>Value.int .u8 b.toNat)++(List.replicate (cap-f.size) (.int .u8 0))⟩:=az9;have r:gD w (.cells ⟨(f.data.toList.map λb=>Value.int .u8 b.toNat)++(List.replicate (cap-f.size) (.int .u8 0))⟩ e (cap,cap+1)) {w with drawn:=w.drawn+1,heap:=w.heap.push ob}:=⟨az9,rfl,rfl⟩;refine gg B (B9 (L0:=.res) (m:=f.size) p p.rel r az7 H J (.cz (.d _ _ ?_)) h);have W:(f.data.toList.map fO).flatMap D.cells=f.data.toList.map fO:=by
   generalize f.data.toList=q;induction q with
   |nil=>rfl
   |cons y ys ih=>simp[aDe,aDO,ih];rfl
  refine .list w.heap.size 0 _ cap 1 _ (f.data.toList.map λb=>Value.int .u8 b.toNat) az7 L ?_ ?_ ?_
  .intro d j;simp at j;obtain⟨y,_,rfl⟩:=j;rfl
  .exact PL r az7 (by
    intro v n;simp at n;obtain⟨y,_,rfl⟩:=n;rfl)
  .generalize f.data.toList=q;induction q with
   |nil=>exact .nil
   |cons y ys ih=>exact .cons _ _ _ _ (.int _ _) ih
 .exact h.elim
theorem P8:∀{l:List D} {s:List UInt8} {vs:List Value},nJ l=some s->cw w G vs (l.flatMap D.cells)->∃a:List Int,vs=a.map (Value.int .u8)/\a.map (λn=>UInt8.ofNat n.toNat)=s/\a.length=l.length
 |[],s,vs,h,b=>by
  simp[nJ,aCz]at h;subst h;cases b;simp
 |x::l,s,vs,h,b=>by
  cases x<;>first|(simp[nJ,reduceCtorEq]at h)|skip
  rename_i k n;cases k<;>first|(simp[nJ,reduceCtorEq]at h;done)|skip
  simp[nJ]at h;cases au:nJ l with
  |none=>simp[au]at h
  |some g=>
   simp[au,aCz]at h;subst h;have e:=b;cases e with
   |cons v _ f _ h1 c=>
    cases h1;obtain⟨a,rfl,rfl,d⟩:=P8 au c;exact⟨n::a,rfl,rfl,by simp[d]⟩
theorem ahG{d s t e S:Nat}{x:Operand}{u:O}(p:b6 n0 gl nt w G ρ lam a st)(m:o.dst=some d)(y:d<nt)(W:o.op=.convert s t x)(F:bW P S x=some u)
  (A:P.underlying s=some (.slice e)) (U:P.underlying t=some .string) (B:P.underlying e=some (.int .u8))
  (f:step (bA P gl) gl (.bs d u) st K):o.wp P a w (cP n0 gl nt w G ρ K) Q:=by
 obtain⟨Y,M⟩:=dY F p.rel;simp[step]at f;split at f
 .rename_i sz l H;split at f
  .rename_i q h;obtain⟨g,i,v1,iB,R⟩:=(M.hJ H).slice;have V:=run_convert_bytes_string (P:=P) w s t e g l.length i A B U;by_cases z:l=[]
   .subst z;simp[nJ,aCz]at h;subst h;have J:(Conv.bytesToString (.slice g 0 i)).run P w=.ok (.string .empty) w:=by
     cases g with
     |none=>rfl
     |some g=>rfl
    refine p.value m y (v:=.string .empty) ?_ (.cz (.d _ _ (.str _ _ rfl))) f;grind[execOp,Sem.run_bind,Result.andThen_ok,Sem.run_pure]
   .obtain⟨b,k,vs,rfl,hw,L,C⟩:=R z;obtain⟨c,rfl,rfl,Z⟩:=P8 h C;have E:(loadCells ⟨b,k,none⟩ l.length).run P w=.ok (c.map (Value.int .u8)).toArray w:=by
     have:=aEp (P:=P) w ⟨b,k,none⟩ (c.map (Value.int .u8)) (λj v N=>by rw[aDv];exact(L j v N).1);simp_all
    have J:=run_bytesToString (P:=P) w ⟨b,k,none⟩ l.length i c E;refine p.value m y (v:=.string (c.foldl (λr n=>r.push (UInt8.ofNat n.toNat)) ByteArray.empty)) ?_ (.cz (.d _ _ (.str _ _ ?_))) f
    .grind[execOp,Sem.run_bind,Result.andThen_ok,Sem.run_pure]
    .have:∀(c:List Int) (r:ByteArray),(c.foldl (λr n=>r.push (UInt8.ofNat n.toNat)) r).data.toList=r.data.toList++c.map (λn=>UInt8.ofNat n.toNat):=by
      intro c;induction c with
      |nil=>simp
      |cons n c ih=>
       simp_all
     simp_all
  .exact f.elim
 .exact f.elim
theorem P9(n m:Nat)(d:Bool)(g:∀(t:Nat) (a:List Nat) (vs:List Value) (v:Value),kinds P n t=some a->vs.length=a.length->shaped P t vs v->(Instr.checkKey d m t v).run P w=.ok () w)(V:Array Value):
  ∀(b:List Field) (off:Nat) (a:List Nat),sk P (kinds P n) b off=some a->off+a.length<=V.size->
   (forIn (m:=Sem) b PUnit.unit λf _=>do
    if f.name≠ "_" then Instr.checkKey d m f.type (<-part f.type V f.offset)
    pure (ForInStep.yield PUnit.unit)).run P w=.ok PUnit.unit w
 |[],_,_,_,_=>rfl
 |f::b,off,a,h,aE=>by
  unfold sk at h;split at h
  .rename_i i;obtain⟨r,o⟩:=i;cases c:kinds P n f.type with
   |none=>simp_all
   |some k1=>
    simp[c]at h;cases e:sk P (kinds P n) b (off+k1.length)with
    |none=>simp_all
    |some k2=>
     simp only[e]at h;split at h
     .rename_i j;simp at h;subst h;simp at aE;obtain⟨l,p,k⟩:=B1 (off:=off) c j V az6 (B2 c) w;have q:=g f.type k1 _ l c az9 k;have s:=P9 n m d g V b (off+k1.length) k2 e az6;simp_all
     simp_all
  simp_all
theorem Fq(b:Bool):∀(n m t:Nat) (a:List Nat) (vs:List Value) (v:Value),kinds P n t=some a->n<=m->vs.length=a.length->shaped P t vs v->(Instr.checkKey b m t v).run P w=.ok () w
 |0,_,_,_,_,_,h,_,_,_=>by grind[kinds]
 |n+1,0,_,_,_,_,_,h,_,_=>absurd h az6
 |n+1,m+1,t,a,vs,v,h,hm,aE,c=>by
  unfold kinds at h;cases aK:P.underlying t with
  |none=>simp_all
  |some desc=>
   simp[aK]at h;cases desc<;>simp only[reduceCtorEq,aCz]at h;case struct fs=>
    have g:gf P t=true:=aAE;unfold shaped at c;rw[aCT g]at c;split at h
    .have:=P9 n m b (λt a vs v f d e=>Fq b n m t a vs v f az6 d e) ⟨vs⟩ fs.toList 0 a h az9;simp_all[Instr.checkKey,eN]
    simp_all
   all_goals
    simp_all[Instr.checkKey,eN]
theorem axb{a:List Nat}{x y:D}{r:Bool}(b:cG a x.cells y.cells=some r):True:=trivial
def vN(w:World)(G:bL)(ρ:List Nat)(mes:List MapEntry)(es:List (D×ah)):Prop:=hW (λe p=>Rd w G e.key p.1/\c7 w G ρ e.val p.2) mes es
theorem Fs{mes:Array MapEntry}{es:List (D×ah)}(a:mes.size=es.length)(h:∀(j:Nat) (e:MapEntry) (p:D×ah),mes[j]?=some e->es[j]?=some p->Rd w G e.key p.1/\c7 w G ρ e.val p.2):vN w G ρ mes.toList es:=by
 have key:∀(l:List MapEntry) (es:List (D×ah)),l.length=es.length->(∀(j:Nat) (e:MapEntry) (p:D×ah),l[j]?=some e->es[j]?=some p->Rd w G e.key p.1/\c7 w G ρ e.val p.2)->vN w G ρ l es:=by
  intro l;induction l with
  |nil=>intro es a _;cases es with|nil=>exact .nil|cons=>simp_all
  |cons e l ih=>
   intro es a h;cases es with
   |nil=>simp_all
   |cons p es=>exact .cons (h 0 e p rfl rfl) (ih es az9 λj e p c b=>h (j+1) e p az9 az9)
 grind
def foundAt(mes:List MapEntry)(i:Nat):Option Nat->Option (Nat×Value)
 |none=>none
 |some j=>(mes[j-i]?).map λe=>(j,e.val)
theorem Ch{a:Bool}{c:List Nat}{k:D}:∀{es:List (D×ah)} {i j:Nat},e4 a c k es i=some (some j)->i<=j/\j<i+es.length
 |[],i,j,h=>by grind[e4]
 |e::es,i,j,h=>by
  simp[e4]at h;cases b:fc a e.1 with
  |false=>simp_all
  |true=>
   simp[b,aC0]at h;split at h
   .simp_all
   .have:=Ch h;grind
   simp_all
theorem P'{d:Nat}{f:List Nat}{c:Bool}{u:Value}{k:D}(o:kinds P 10 d=some f)(m:gf P d=c)(n:Rd w G u k)(l:fc c k=true):
  ∀{mes:List MapEntry} {es:List (D×ah)} {i:Nat} {r:Option Nat},vN w G ρ mes es->e4 c f k es i=some r->(Instr.findAsking d u mes i).run P w=.ok (foundAt mes i r) w
 |[],_,i,r,h,a=>by
  cases h;simp[e4,aCz]at a;subst a;rfl
 |e::mes,_,i,r,h,a=>by
  cases h with
  |cons he h=>
   rename_i p es;simp[e4]at a;cases q:fc c p.1 with
   |false=>simp_all
   |true=>
   simp[q,aC0]at a;cases g:cG f k.cells p.1.cells with
   |none=>simp_all
   |some b=>
    have s:=agp (P:=P) o m n he.1 l q g;simp[g]at a;cases b with
    |true=>
     simp at a;subst a;simp_all[Instr.findAsking,foundAt]
    |false=>
     have t:=P' o m n l h a;simp only[Instr.findAsking,aCD,s,aCH,aDq,aCW,t];congr 1;cases r with
     |none=>rfl
     |some j=>
      have v:=(Ch a).1;grind[foundAt]
theorem ahI{f:Nat}{g:List Nat}{e:TypeDesc}{u v:Value}{x y:D}{r:Bool}(a:kinds P 10 f=some g)(j:P.underlying f=some e)(o:gf P f=false)(d:Rd w G u x)(c:Rd w G v y)(n:fc false x=true)(l:fc false y=true)
  (b:cG g x.cells y.cells=some r):Instr.sameNow e u v=some r:=by
 have h:x.cells=[x]:=by cases x<;>first|rfl|grind[fc]
 have i:y.cells=[y]:=by cases y<;>first|rfl|grind[fc]
 rw[h,i]at b;unfold kinds at a;simp[j]at a;cases e<;>simp at a;case bool=>
  subst a;obtain⟨p,q,rfl,rfl,rfl⟩:=EU b;cases d;cases c;rfl
 case int=>
  subst a;obtain⟨k,p,q,rfl,rfl,rfl⟩:=Pn b;cases d;cases c;simp[Instr.sameNow,Pl]
 case string=>
  subst a;obtain⟨p,q,rfl,rfl,rfl⟩:=Po b;cases d with|str s1 _ h1=>cases c with|str s2 _ m=>simp_all[Instr.sameNow,beq_toListBytes,aD1,zI]
 grind[gf]
theorem Qa{c:Nat}{d:List Nat}{m:TypeDesc}{u:Value}{k:D}(q:kinds P 10 c=some d)(g:P.underlying c=some m)(n:gf P c=false)(o:Rd w G u k)(l:fc false k=true):
  ∀{mes:List MapEntry} {es:List (D×ah)} {i:Nat} {r:Option Nat},vN w G ρ mes es->e4 false d k es i=some r->Instr.findNow m u mes i=some (foundAt mes i r)
 |[],_,i,r,h,a=>by
  cases h;simp[e4,aCz]at a;subst a;rfl
 |e::mes,_,i,r,h,a=>by
  cases h with
  |cons he h=>
   rename_i p es;simp[e4]at a;cases s:fc false p.1 with
   |false=>simp_all
   |true=>
   simp[s,aC0]at a;cases f:cG d k.cells p.1.cells with
   |none=>simp_all
   |some b=>
    have t:=ahI (P:=P) q g n o he.1 l s f;simp[f]at a;cases b with
    |true=>
     simp at a;subst a;simp_all[Instr.findNow,foundAt]
    |false=>
     have v:=Qa q g n o l h a;simp only[Instr.findNow,t,v];cases r with
     |none=>rfl
     |some j=>
      have x:=(Ch a).1;grind[foundAt]
theorem vO{d:Nat}{j:List Nat}{a:Bool}{u:Value}{k:D}(l:kinds P 10 d=some j)(g:gf P d=a)(i:Rd w G u k)(f:fc a k=true)
  {mes:List MapEntry} {es:List (D×ah)} {r:Option Nat} (h:vN w G ρ mes es) (b:e4 a j k es 0=some r):(Instr.findKey d u mes).run P w=.ok (foundAt mes 0 r) w:=by
 have c:∃desc,P.underlying d=some desc:=by
  grind[kinds]
 obtain⟨desc,c⟩:=c;unfold Instr.findKey;simp[aCD,eN c,aCH];cases a with
 |false=>
  rw[Qa l c g i f h b];rfl
 |true=>
  have m:=P' l g i f h b;cases mes with
  |nil=>
   cases h;simp[e4,aCz]at b;subst b;rfl
  |cons e mes=>
   grind[Instr.findNow,gf,Instr.sameNow]
end
end Go.aG
