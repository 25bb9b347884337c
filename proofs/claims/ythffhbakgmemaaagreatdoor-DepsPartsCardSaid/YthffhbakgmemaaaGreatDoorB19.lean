/- Part of parts_said. -/
import Derived.Test.YthffhbakgmemaaaGreatDoorQ0
import Derived.Test.YthffhbakgmemaaaGreatDoorB18
set_option maxRecDepth 100000
set_option maxHeartbeats 8000000
set_option linter.unusedSimpArgs false
set_option linter.unusedVariables false
namespace Go.aG
open Go.RowKit Go.Sort
section
variable {P:Program}
theorem awo{a:Type}[Inhabited a]{enc:a->Value}{w:World}{n b:Nat}{os:Array Obj}{zs:Array a}{c:Array Value}{E:TypeId}{fz:Nat×Nat}(au:w.heap[b]?=some (.cells c E fz)):
  (grow (putRow enc (Sort.ahead w n) b 0 zs) os).heap[b]?=some (.cells (Sort.putCells enc 0 zs c) E fz):=by
 have d:b<w.heap.size:=(aC'.1 au).1;unfold grow putRow mapBlock;rw[aFA (by simpa using d),aEl,aCT rfl];show(w.heap[b]?).map _=_;rw[au];rfl
theorem afO{a:Type}[Inhabited a]{enc:a->Value}{w:World}{n b k:Nat}{os:Array Obj}{zs:Array a}(d:k<w.heap.size)(c:k≠b):
  (grow (putRow enc (Sort.ahead w n) b 0 zs) os).heap[k]?=w.heap[k]?:=by
 unfold grow putRow mapBlock;rw[aFA (by simpa using d),aEl,aCV (λh=>c h.symm)];rfl
variable {α:Type}[Inhabited α]{enc:α->Value}{w:World}{G:bL}{ρ:List Nat}{s:aY}{b:Nat}{cs xs:List ah}{F:Array α}
theorem awp(n:gK w G ρ (.box cs::s))(hi:ρ[0]?=some (b+1))(o:∀j,j<F.size->∃d,cs[j]?=some (.d d)/\∀v,Rd w G v d->v=enc F[j]!):Holds enc w b 0 F/\b<w.heap.size:=by
 obtain⟨c,E,t,au,p,dh,u,dn⟩:=(show dC w G ρ b (.obj 0) (.dk 0) _ from n.2 0 b _ hi rfl);refine⟨λj g=> ?_,(aC'.1 au).1⟩;obtain⟨d,h1,k⟩:=o j g;have r:j<cs.length:=(aDA.1 h1).1;have a:c[j]?=some (c[j]' az6):=aDh _;have m:=dn j _ _ a h1;rw[aDl];refine⟨?_,?_⟩
 .rw[cell_of_block au,a];generalize c[j]' az6=v at*;cases (show c7 w G ρ v (.d d)from m)with
  |d _ _ h=>rw[k v h]
 .rw[tZ au];have:=p j az6;simp only[Bool.and_eq_false_imp,aCA,aCE];exact λl f=>this ⟨l,f⟩
theorem awq(n:Nat)(os:Array Obj)(u:gK w G ρ (.box cs::s))(H:∀b L n,G b=some (L,n)->b<w.heap.size)(hi:ρ[0]?=some (b+1))(A:xs.length=cs.length)
  (N:∀j x,xs[j]?=some x->∃d,x=.d d/\((j<F.size/\∀w',Rd w' G (enc F[j]!) d)\/F.size<=j/\cs[j]?=some x/\∀v w',Rd w G v d->Rd w' G v d)):
  gK (grow (putRow enc (Sort.ahead w n) b 0 F) os) G ρ (.box xs::s)/\(∀k L m,G k=some (L,m)->k<(grow (putRow enc (Sort.ahead w n) b 0 F) os).heap.size)/\Good w G (grow (putRow enc (Sort.ahead w n) b 0 F) os) G:=by
 obtain⟨c,E,P,au,S,dh,R,dn⟩:=(show dC w G ρ b (.obj 0) (.dk 0) _ from u.2 0 b _ hi rfl);have z:=awo (enc:=enc) (n:=n) (os:=os) (zs:=F) au;have l:(Sort.putCells enc 0 F c).size=c.size:=by unfold Sort.putCells;exact Array.size_mapIdx
 refine GD (v:=.bool false) (G':=G) (o':=.box xs) u H hi rfl dh (λg h=>by simp[Value.ownBlock]at h)
  (w':=grow (putRow enc (Sort.ahead w n) b 0 F) os)
  ⟨rfl,rfl,by unfold grow putRow mapBlock;simp[Sort.ahead],λk Q K _=>afO Q K⟩ (λ_=>.inl rfl) (λk m o M=> ?_) (show dC _ _ _ _ _ _ _ from⟨_,E,P,z,λj r=>S j (by rw[l]at r;exact r),dh,by rw[l,A];exact R,λj v x a t=> ?_⟩)
 .rcases o with rfl|o
  .obtain⟨U,Y,X,p,J⟩:=M;rw[au]at p;simp only[aCz,Obj.cells.injEq]at p;obtain⟨rfl,_,_⟩:=p;exact⟨_,_,_,z,by rw[l];exact J⟩
  .simp[Value.ownBlock]at o
 .obtain⟨d,rfl,h⟩:=N j x t;have V:j<xs.length:=(aDA.1 t).1;unfold Sort.putCells at a;rw[Array.getElem?_mapIdx,aDh (show j<c.size by omega)]at a;simp only[aDD,aCz]at a;subst a;rcases h with⟨h1,f⟩|⟨h1,f,C⟩
  .rw[aCT az6];exact .d _ _ (f _)
  .rw[aCV az6];have B:=dn j _ _ (aDh (show j<c.size by omega)) f;generalize c[j]' az6=v at*;cases (show c7 w G ρ v (.d d)from B)with
   |d _ _ h=>exact .d _ _ (C _ _ h)
end
end Go.aG
namespace Go.Proofs.YthffhbakgmemaaaGreatDoor
open Go Go.aG Go.RowKit Go.Sort Go.Proofs
theorem afP{c a:Type}{R:c->a->Prop}:∀{l:List c} {m:List a} {j:Nat} {y:a},hW R l m->m[j]?=some y->∃x,l[j]?=some x/\R x y
 |_,_,0,_,.cons h _,e=>⟨_,rfl,by cases e;exact h⟩
 |_,_,j+1,_,.cons _ h,e=>afP (j:=j) h e
theorem awr{w:World}{G:bL}{ρ:List Nat}{p z:Nat}{mes:Array MapEntry}{es:List (D×ah)}(s:ax)(au:w.heap[p]?=some (.map mes z))(o:vN w G ρ mes.toList es)(E:∀e∈es,(∃t,e.1=.str t)/\∃x,e.2=.d (int x)):
  ∃k f,(if f then k else -1)=(match lJ s es with|some (.d (.int _ k))=>k|_=> -1)/\(Instr.lookup 97 (.map (some p)) (.string ⟨s.toArray⟩) true).run Tryz.prog w=.ok (.tuple #[.int .i64 k,.bool f]) w:=by
 have B:Tryz.prog.underlying 97=some (.map 9 3):=az5;have n:kinds Tryz.prog 10 9=some [2]:=az5;have g:gf Tryz.prog 9=false:=az5;have r:Rd w G (.string ⟨s.toArray⟩) (.str s):=.str _ _ rfl;have C:(getObj p).run Tryz.prog w=.ok (.map mes z) w:=by simp only[getObj,Sem.run,au]
 have H:(zeroValue 3).run Tryz.prog w=.ok (.int .i64 0) w:=az5;obtain⟨Q,N,R⟩:=JC (P:=Tryz.prog) (ks:=[2]) g r rfl rfl;have F:∀l,(Instr.checkKey l 10000 9 (.string ⟨s.toArray⟩)).run Tryz.prog w=.ok () w:=λl=>Fq l 10 10000 9 [2] Q _ n az' N R;rcases Im s .undef es 0 (λe L=>(E e L).1)with⟨h1,a,_⟩|⟨j,e,h1,a,K,_⟩
 .have c:=vO (P:=Tryz.prog) n g r rfl o h1;refine⟨0,false,by rw[a];rfl,?_⟩;simp only[Instr.lookup,aCD,eN B,aCH,C,aCK,F,c,foundAt,H,if_true]
 .have c:=vO (P:=Tryz.prog) n g r rfl o h1;obtain⟨_,k,A⟩:=E e (aC8 a);obtain⟨u,M,_,m⟩:=afP o a;rw[A]at m;refine⟨k,true,by rw[K,A];rfl,?_⟩;have J:u.val=.int .i64 k:=by
   generalize u.val=v at m;cases m with
   |d _ _ h=>cases h;rfl
  simp only[Instr.lookup,aCD,eN B,aCH,C,aCK,F,c,foundAt,aDl,aFa,M,aDD,J,if_true]
def qS(p:ax×Int):List Value:=[.string ⟨p.1.toArray⟩,.int .i64 p.2]
def sa(es:List (D×ah))(v:ax):Int:=match lJ v es with|some (.d (.int _ k))=>k|_=> -1
def xc(es:List (D×ah))(a b:ax×Int):Int:=if r' (sa es a.1) (sa es b.1)=0 then r' a.2 b.2 else r' (sa es a.1) (sa es b.1)
def IB(es:List (D×ah))(a b:ax×Int):Prop:=sa es a.1<sa es b.1\/sa es a.1=sa es b.1/\a.2<b.2
theorem afR(es:List (D×ah))(a b:ax×Int):ltOf (xc es) a b=true↔IB es a b:=by
 unfold ltOf xc IB r';rw[decide_eq_true_iff];repeat' split
 all_goals omega
theorem afS(es:List (D×ah)):SWO (ltOf (xc es)):=by
 have h:=λa b=>afR es a b;have c:=λa b=>(aDS (b:=ltOf (xc es) a b)).trans (not_congr (h a b));refine⟨λx=> ?_,λx y z=> ?_,λx y z=> ?_⟩<;>simp only[h,c,IB]<;>omega
theorem afT:∀{l:List (ax×Int)} {j:Nat} {x:ah},(cW l)[j]?=some x->∃i p,l[i]?=some p/\(j=i*2/\x=.d (.str p.1)\/j=i*2+1/\x=.d (int p.2))
 |p::_,0,_,h=>⟨0,p,rfl,.inl ⟨rfl,by cases h;rfl⟩⟩
 |p::_,1,_,h=>⟨0,p,rfl,.inr ⟨rfl,by cases h;rfl⟩⟩
 |_::l,j+2,_,h=>by
  obtain⟨i,p,h1,a⟩:=afT (l:=l) (j:=j) h;exact⟨i+1,p,h1,a.imp (λh=>⟨az6,h.2⟩) λh=>⟨az6,h.2⟩⟩
theorem O2:∀{l:List (ax×Int)} {i:Nat} {p:ax×Int},l[i]?=some p->(cW l)[i*2]?=some (.d (.str p.1))/\(cW l)[i*2+1]?=some (.d (int p.2))
 |_::_,0,_,h=>by cases h;exact⟨rfl,rfl⟩
 |q::l,i+1,p,h=>by
  have:=O2 (l:=l) (i:=i) (p:=p) h;rw[Nat.succ_mul];exact this
theorem afU{l:List (ax×Int)}{i:Nat}{p:ax×Int}(h:l[i]?=some p):(flatK qS 2 l.toArray)[i*2]! =.string ⟨p.1.toArray⟩/\(flatK qS 2 l.toArray)[i*2+1]! =.int .i64 p.2:=by
 have a:i<l.length:=(aDA.1 h).1;have hp:l.toArray[i]! =p:=by simp[h]
 rw[get_flatK _ _ _ _ aA9,get_flatK _ _ _ _ aA9,show i*2/2=i by omega,show i*2%2=0 by omega,show(i*2+1)/2=i by omega,show(i*2+1)%2=1 by omega,hp];exact⟨rfl,rfl⟩
theorem afV{w:World}{G:bL}{ρ:List Nat}{s:aY}{i b j:Nat}{cs:List ah}{x:ah}(f:gK w G ρ s)(hi:ρ[i]?=some (b+1))(g:s[i]?=some (.box cs))(a:cs[j]?=some x):
  ∃v,w.cell? ⟨b,j,none⟩=some v/\dp w G ρ (.dk i j) v x/\b<w.heap.size/\G b=some (.obj i,0):=by
 obtain⟨c,E,l,au,n,dh,m,dn⟩:=(show dC w G ρ b (.obj i) (.dk i) cs from f.2 i b _ hi g);have k:j<cs.length:=(aDA.1 a).1;have d:c[j]?=some (c[j]' az6):=aDh _;exact⟨_,by rw[cell_of_block au,d],dn j _ _ d a,(aC'.1 au).1,dh⟩
def aws(es:List (D×ah))(a b:ax×Int):Prop:=¬IB es b a
theorem awt{gl:Nat->List D}(bh:gq Tryz.prog 37){s:aY}{cs:List ah}{es:List (D×ah)}{k:Nat}(h1:s[0]?=some (.box [.ptr 2 0]))(g:s[1]?=some (.box cs))(cT:cs[6]?=some (.map (k+1)))(R:s[k]?=some (.map es))
  (p2:∀e∈es,(∃t,e.1=.str t)/\∃x,e.2=.d (int x)) (ps:List (ax×Int)) (q n:Nat) (Z:ps.length=n) (aS:q<=n) (aq:n<=1000):
  ∃Q:List (ax×Int),(Q.Perm (ps.take q)/\Q.Pairwise (aws es))/\bD Tryz.prog gl 37 [.aP 0 0 q n 2,.func 38 [] [.ptr 1 0]] (.box (cW ps)::s) (.tuple []) (.box (cW (Q++ps.drop q))::s):=by
 have V:(ps.take q).length=q:=aAG;obtain⟨f,vy⟩:∃f,f=Sort.pdq (ltOf (xc es)) (ps.take q).toArray 0 (ps.take q).toArray.size (Lib.bitLen (ps.take q).toArray.size) true true:=⟨_,rfl⟩;have hp:=pdq_sorts (ltOf (xc es)) (afS es) (ps.take q).toArray 0 (ps.take q).toArray.size (Lib.bitLen (ps.take q).toArray.size) true true (aCu _) (aCw _) (Or.inl rfl);rw[<-vy]at hp;obtain⟨⟨S,_,nX⟩,ao⟩:=hp;have cj:f.size=q:=by rw[S];simpa using V
 refine⟨f.toList,⟨?_,?_⟩,bh,λw G B vs z aF ay l=> ?_⟩
 .have r:f.extract 0 (ps.take q).toArray.size=f:=by rw[<-S,Array.extract_size]
  rw[r,Array.extract_size]at nX;exact nX
 .refine List.pairwise_iff_getElem.2 λi j E K ep=> ?_;have:=ao i j (aCu _) ep (by rw[<-S];simpa using K);rw[getElem!_pos f i (by simpa using E),getElem!_pos f j (by simpa using K)]at this;exact λh=>by have h:=(afR es _ _).2 h;rw[Array.getElem_toList,Array.getElem_toList,this]at h;cases h
 .cases l with
  |cons v1 _ nM _ cg U=>
   cases U with
   |cons v2 _ nP _ U ar=>
    cases ar;cases cg with
    |aP _ _ _ _ et _ b E iB aM=>
     cases U with
     |func _ ff br _ _ bn P=>
      cases bn;cases P with
      |cons bg _ bk _ P aA=>
       cases aA;cases P with
       |ptr _ _ bv O1=>
        obtain⟨v3,c3,dG,eO,g3⟩:=afV (j:=0) z O1 (show _=some (cc.box [.ptr 2 0])from h1) rfl;cases (show c7 w G B v3 (.ptr 2 0)from dG)with
        |ptr _ _ oS aB=>
         obtain⟨v4,c4,rv,wh,g4⟩:=afV (j:=6) z aB (show _=some (cc.box cs)from g) cT;cases (show c7 w G B v4 (.map (k+1))from rv)with
         |map _ o aN=>
          obtain⟨aU,bt,m1,m2,m3,m4⟩:=(show ky w G B (k+1) o (.map es)from z.2 (k+1) o _ aN R);have ad:o<w.heap.size:=(aC'.1 m1).1;obtain⟨_,_,_,_,_,g0,_⟩:=(show dC w G B b (.obj 0) (.dk 0) (cW ps)from z.2 0 b _ E rfl);have sS:bv≠b:=λh=>by rw[h,g0]at g3;cases g3
          have n4:oS≠b:=λh=>by rw[h,g0]at g4;cases g4
          have Y:o≠b:=λh=>by rw[h,g0]at m2;cases m2
          have o9:∀W,vN W G B aU.toList es:=λW=>Fs m3 λj e p he hp=>by
           obtain⟨⟨t,h1⟩,x,g⟩:=p2 p (aC8 hp);have u:=m4 j e p he hp;rw[h1,g]at u;rw[h1,g];generalize e.key=a at u⊢;generalize e.val=c at u⊢;obtain⟨u,aZ⟩:=u;cases u with
           |str _ _ h=>cases aZ with
            |d _ _ bN=>cases bN;exact⟨.str _ _ h,.d _ _ (.int _ _)⟩
          have iC:∀(W:World) (x:ax),W.heap[o]?=w.heap[o]?->W.heap[oS]?=w.heap[oS]?->Calls Tryz.prog 41 #[.pointer (some ⟨oS,0,none⟩),.string ⟨x.toArray⟩] W λe w'=>e=.returned (.int .i64 (sa es x))/\w'=W:=λW x r N=>by
           obtain⟨k,aR,h1,g⟩:=awr x (r.trans m1) (o9 W) p2;have:=awk oS o ⟨x.toArray⟩ k aR W (by unfold World.cell? at c4⊢;rw[N];exact c4) λt aK=>by rw[aK];exact g
           rw[h1]at this;exact this
          have aQ:CmpLays Tryz.prog 38 #[.pointer (some ⟨bv,0,none⟩)] qS 2 (xc es) b 0 (ps.take q).toArray.size w:=λm os M _ x y=>by
           have A:∀k,k<w.heap.size->k≠b->(sortWorldK qS 2 w b 0 m M os).heap[k]?=w.heap[k]?:=λk R cd=>afO R cd;have Z:w.heap.size<=(sortWorldK qS 2 w b 0 m M os).heap.size:=by unfold sortWorldK grow putRowK putRow mapBlock;simp[Sort.ahead]
           generalize sortWorldK qS 2 w b 0 m M os=W at A Z;exact afN bv oS (⟨x.1.toArray⟩,x.2) (⟨y.1.toArray⟩,y.2) (sa es x.1) (sa es y.1) W (by unfold World.cell? at c3⊢;rw[A bv eO sS];exact c3) az6
            (λdH h=>iC dH x.1 (by rw[h _ az6,A _ ad Y]) (by rw[h _ az6,A _ wh n4]))
            (λdH h=>iC dH y.1 (by rw[h _ az6,A _ ad Y]) (by rw[h _ az6,A _ wh n4]))
          have hH:HoldsK qS 2 w b 0 (ps.take q).toArray/\b<w.heap.size:=awp z E λj K=>by
           rw[size_flatK,show(ps.take q).toArray.size=q from V]at K;have jY:j/2<ps.length:=az6;have r:ps[j/2]?=some ps[j/2]:=aCB jY;have N:(ps.take q)[j/2]?=some ps[j/2]:=by rw[aD0,aCT az6];exact r
           obtain⟨L,H⟩:=O2 r;obtain⟨bq,C⟩:=afU N;rcases Nat.mod_two_eq_zero_or_one j with h|h
           .rw[show j/2*2=j by omega]at L bq;exact⟨_,L,λv l=>by cases l with|str s _ h=>exact .trans (by rw[<-h]) bq.symm⟩
           .rw[show j/2*2+1=j by omega]at H C;exact⟨_,H,λv l=>by cases l;exact C.symm⟩
          have J:=AnyQ.slices_SortFunc_eq Tryz.ab1 2 Tryz.isAgg60 Tryz.sizeOf60 qS (λ_=>rfl) (λx v l=>by simp[qS]at l;rcases l with rfl|rfl<;>rfl) (xc es) (afS es) 38 #[.pointer (some ⟨bv,0,none⟩)] b 0 et (ps.take q).toArray w (enters_of Tryz.func38 az5 rfl) aQ hH.1 hH.2 aA9;rw[<-vy]at J;change Calls Tryz.prog 37 _ _ _ at J;rw[show(ps.take q).toArray.size=q from V]at J;refine J.mono ?_;rintro e w' ⟨rfl,jG,os,rfl⟩;have X:=awq (enc:=id) (F:=flatK qS 2 f) (xs:=cW (f.toList++ps.drop q)) jG os z ay E (by rw[qR,qR,aCF,aDQ,aEo];omega) λj x ai=>by
           obtain⟨i,p,h1,g⟩:=afT ai;rw[size_flatK,cj];by_cases bm:i<q
           .rw[aDj (by rw[aEo];omega)]at h1;obtain⟨bq,C⟩:=afU h1;rw[Array.toArray_toList]at bq C;rcases g with⟨rfl,rfl⟩|⟨rfl,rfl⟩
            .exact⟨_,rfl,.inl ⟨az6,λw'=>by show Rd w' G (flatK qS 2 f)[i*2]! _;rw[bq];exact .str _ _ rfl⟩⟩
            .exact⟨_,rfl,.inl ⟨az6,λw'=>by show Rd w' G (flatK qS 2 f)[i*2+1]! _;rw[C];exact .int _ _⟩⟩
           .rw[aDp (by rw[aEo];omega),aDP,aEo,cj,show q+(i-q)=i by omega]at h1;obtain⟨L,H⟩:=O2 h1;rcases g with⟨rfl,rfl⟩|⟨rfl,rfl⟩
            .exact⟨_,rfl,.inr ⟨az6,L,λv w' h=>by cases h with|str _ _ h=>exact .str _ _ h⟩⟩
            .exact⟨_,rfl,.inr ⟨az6,H,λv w' h=>by cases h;exact .int _ _⟩⟩
          exact⟨_,G,B,rfl,.tuple [] _ .nil,X.1,X.2.1,X.2.2,λ_ _ h=>h⟩
theorem awy{gl:Nat->List D}(j:gq Tryz.prog 37)(f:ah)(s:aY):bD Tryz.prog gl 37 [.d (.list 2 []),f] s (.tuple []) s:=by
 refine⟨j,λw G o m k r c l=> ?_⟩;cases l with
 |cons v1 _ t _ h1 a=>
  cases a with
  |cons v2 _ u _ a g=>
   cases g;cases h1 with
   |d _ _ h1=>
    have:∃p cap,v1=.slice p 0 cap:=by
     cases h1 with
     |kZ=>exact⟨_,_,rfl⟩
     |list b off n cap _ _ m h=>subst h;exact⟨_,cap,rfl⟩
    obtain⟨p,cap,rfl⟩:=this;refine(AnyF.slices_SortFunc_none Tryz.ab1 p cap v2 w).mono ?_;rintro e w' ⟨rfl,rfl⟩;exact⟨_,G,o,rfl,.tuple [] _ .nil,k,c,Good.refl c,λ_ _ h=>h⟩
open Go Go.aG
attribute [local irreducible] bD
def pK(m:bw)(v:ax):Int:=match lJ v m.P with|some (.d (.int _ k))=>k|_=> -1
def xd(m:bw)(a b:ax×Int):Prop:=pK m a.1<pK m b.1\/pK m a.1=pK m b.1/\a.2<b.2
def BG(m:bw)(a b:ax×Int):Prop:=¬xd m b a
def IC(k:Nat):ah:=.func 38 [] [.ptr k 0]
theorem afX:gq Tryz.prog 37:=⟨Tryz.f37,Tryz.func37,az5,az5⟩
theorem awz(m:bw)(a d:Bool)(ps:List (ax×Int))(q n:Nat)(f:ps.length=n)(aS:q<=n)(h:n<=1000)(g:qN m.P):∃c:List (ax×Int),(c.Perm (ps.take q)/\c.Pairwise (BG m))/\aL 37 [.aP 0 0 q n 2,IC 1] (m.s2 (cW ps) a d) (.tuple []) (m.s2 (cW (c++ps.drop q)) a d):=by
 try unfold aL
 rw[qv];cases a<;>cases d;all_goals exact awt afX rfl rfl rfl rfl g ps q n f aS h
theorem awA(m:bw)(a c:Bool):aL 37 [.d (.list 2 []),IC 0] (m.s1 a c) (.tuple []) (m.s1 a c):=by
 try unfold aL
 rw[qv];exact awy afX _ _
theorem awB{m:bw}{aq:Bool}{l:List b1}(d:lk m aq l)(hs:Bool):aL 56 [.d (.list 2 []),.func 36 [] [.ptr 0 0]] (m.s1 aq hs) (.d (int (-1))) (m.s1 aq hs):=by
 have a:=d.ok;clear d;obtain⟨u,t,p,N,r,w,S,v,n,o,k,f⟩:=m;refine L5.fX (pJ 1 aq hs) λj ae Q c=> ?_;obtain⟨bp,a2,a3⟩:=aV.of ae a.N;obtain⟨bq,aT,b3⟩:=aV.of ae a.S;obtain⟨c1,c2,c3⟩:=aV.of ae a.bI;obtain⟨d1,d2,d3⟩:=aV.of ae a.bJ;obtain⟨bP,bZ,cx⟩:=aV.of ae a.bH;obtain⟨cb,cp,cy⟩:=fU.of ae a.P;dsimp only at bp a2 a3 bq aT b3 c1 c2 c3 d1 d2 d3 bP bZ cx cb cp cy;have t0:j.len []=0:=aAc;have g:h6 aq:=trivial;have s:h6 hs:=trivial;cases aq<;>cases hs;all_goals
  dsimp only[bw.s1,bw.tI,bw.st,dP,pJ,dc,cv,List.map_cons,List.map_nil,Nat.reduceAdd]at c⊢;refine ak ?_;refine⟨bX (λi:Nat=>cA [(0,.d (.list 2 [])),(1,.func 36 [] [.ptr 0 0]),(7,.d (int (Int.ofNat 0))),(8,.d (int (Int.ofNat i)))] ((⟨u,t,p,N,r,w,S,v,n,o,k,f⟩:bw).s1 (dj g) (dj s))) (λi=>i=0) (λi=>0),_,⟨0,rfl,rfl,az5⟩,?_⟩;rintro _ _ ⟨i,rfl,rfl,rfl⟩;have t1:=en ae (aEW 0);refine ak ?_
 all_goals (subst ae;exact bS c az5 az5)
theorem awC{m:bw}{c:Bool}{l:List b1}(f:lk m c l)(d:Bool):aL 34 [.d (.list 2 []),.func 36 [] [.ptr 0 0]] (m.s1 c d) (.d (.list 2 [])) (m.s1 c d):=by
 have aj:=awB f d;have a:=f.ok;clear f;obtain⟨u,t,r,N,s,w,S,v,o,p,n,k⟩:=m;refine Ms.fX (pJ 1 c d) λj ae Q g=> ?_;obtain⟨bp,a2,a3⟩:=aV.of ae a.N;obtain⟨bq,aT,b3⟩:=aV.of ae a.S;obtain⟨c1,c2,c3⟩:=aV.of ae a.bI;obtain⟨d1,d2,d3⟩:=aV.of ae a.bJ;obtain⟨bP,bZ,cx⟩:=aV.of ae a.bH;obtain⟨cb,cp,cy⟩:=fU.of ae a.P;dsimp only at bp a2 a3 bq aT b3 c1 c2 c3 d1 d2 d3 bP bZ cx cb cp cy;have t1:j.aB .eql (-1) (-1)=true:=aAc;cases c<;>cases d;all_goals
  dsimp only[bw.s1,bw.tI,bw.st,dP,pJ,dc,cv,List.map_cons,List.map_nil,Nat.reduceAdd]at g aj⊢;refine ak ?_
 all_goals (subst ae;exact bS g az5 az5)
structure afY(m:bw)(l:List b1)(ps R:List (ax×Int)):Prop where
 mem:∀p,p∈R↔p∈ps/\fq l p=true
 lt:R.Pairwise (xd m)
 len:R.length<=ps.length
theorem O4{z:List (ax×Int)}:∀{e:Nat},e<=z.length->∀p,p∈jr z e↔p∈z.take e
 |0,_,p=>by simp[jr]
 |e+1,he,p=>by
  have d:=O4 (z:=z) (e:=e) az6 p;rw[zq az6];unfold jr;split
  .rename_i h;rw[d,aC9,aCS];refine⟨.inl,λa=>a.elim id λa=> ?_⟩;rw[a,h.2];obtain⟨c,rfl⟩:∃c,e=c+1:=⟨e-1,az6⟩;rw[zq az6];exact aC7 _ (aE4 _)
  .rw[aC9,aC9,d]
theorem afZ{z:List (ax×Int)}:∀e,(jr z e).length<=e
 |0=>aCw _
 |e+1=>by
  have a:=afZ (z:=z) e;unfold jr;split
  .omega
  .rw[aCF];show _+1<=_;omega
theorem af0{m:bw}{z:List (ax×Int)}:∀{e:Nat},e<=z.length->(z.take e).Pairwise (BG m)->(∀a∈z.take e,∀b∈z.take e,BG m a b->BG m b a->a=b)->(jr z e).Pairwise (xd m)
 |0,_,_,_=>List.Pairwise.nil
 |e+1,he,hp,bn=>by
  rw[zq az6]at hp bn;obtain⟨g,_,j⟩:=aDR.1 hp;have k:=af0 (e:=e) az6 g λa h b r=>bn a (aCN _ h) b (aCN _ r);have f:=aC7 (z.take e) (aE4 (z.getD e d0));unfold jr;split
  .exact k
  .rename_i u;refine aDR.2 ⟨k,List.pairwise_singleton _ _,λx s y p=> ?_⟩;rw[aCS.1 p];have d:=(O4 (show e<=z.length by omega) x).1 s;refine Classical.byContradiction λt=> ?_;have v:=j x d _ (aE4 _);have o:=bn x (aCN _ d) _ f v t;have n:0<e:=by
    rcases e with _|e
    .simp at d
    .omega
   refine u ⟨n,?_⟩;obtain⟨c,rfl⟩:∃c,e=c+1:=⟨e-1,az6⟩;rw[zq (show c<z.length by omega)]at g d j bn f;have l:z.getD c d0∈z.take c++[z.getD c d0]:=aC7 _ (aE4 _);show z.getD (c+1) d0=z.getD c d0;refine(bn _ (aCN _ l) _ f (j _ l _ (aE4 _)) ?_).symm;rw[<-o];rcases aC9.1 d with h|h
   .exact(aDR.1 g).2.2 x h _ (aE4 _)
   .rw[aCS.1 h];rintro(h|⟨_,h⟩)
    .exact absurd h az6
    .exact absurd h az6
def af1(c a:Bool):Nat:=cond c (cond a 9 8) (cond a 8 7)
theorem awD{m:bw}{f:Bool}{l:List b1}(j:lk m f l)(d:Bool)(u:qN m.P)(v:∀a b:ax×Int,fq l a=true->fq l b=true->pK m a.1=pK m b.1->a.1=b.1)(ps:List (ax×Int))(hp:ps.length<=40):
  ∃R:List (ax×Int),afY m l ps R/\aL 13 [.ptr 0 0,.d (.list 2 (ps.map fI))] (m.st f d true) (.d (.list 2 (R.map fI))) (m.st f d true):=by
 cases ps with
 |nil=>
  refine⟨[],⟨λp=>az7,List.Pairwise.nil,aCw _⟩,?_⟩;have aj:=av6;have aC:=awC j d;have aX:=awA m f d;have X:=awe;have c:=j.ok;unfold IC at*;clear j v u;obtain⟨gR,ao,Y,N,cB,ns,S,gn,U,V,P,K⟩:=m;refine Mg.fX (dP f d true) λM ae Q k=> ?_;obtain⟨bp,a2,a3⟩:=aV.of ae c.N;obtain⟨bq,aT,b3⟩:=aV.of ae c.S;obtain⟨c1,c2,c3⟩:=aV.of ae c.bI;obtain⟨d1,d2,d3⟩:=aV.of ae c.bJ;obtain⟨bP,bZ,cx⟩:=aV.of ae c.bH;obtain⟨cb,cp,cy⟩:=fU.of ae c.P;dsimp only at bp a2 a3 bq aT b3 c1 c2 c3 d1 d2 d3 bP bZ cx cb cp cy;cases f<;>cases d;all_goals
   dsimp only[bw.s1,bw.tI,bw.st,dP,pJ,dc,cv,List.map_cons,List.map_nil,Nat.reduceAdd]at k aC aX⊢;refine ak ?_
  all_goals (subst ae;exact bS k az5 az5)
 |cons p ps=>
  have aj:=av5 p ps (by have:(p::ps).length=ps.length+1:=rfl;omega);obtain⟨n,o⟩:∃n,n=(p::ps).length:=⟨_,rfl⟩;have B:0<n:=by rw[o];exact aFx _
  rw[<-o]at aj hp;obtain⟨q,g,⟨h1,af,av⟩,aC⟩:=awa j d (p::ps) n o.symm B az6;obtain⟨ds,⟨z,C⟩,aX⟩:=awz m f d g q n af h1 az6 u;have J:ds.length=q:=by rw[z.length_eq,aDk];omega
  have G:(ds++g.drop q).length=n:=by rw[aCF,aDQ];omega
  have X:=awh (ds++g.drop q) q n G h1 az6 B;have s:(ds++g.drop q).take q=ds:=by rw[<-J,List.take_left]
  have r:∀x,x∈ds↔x∈p::ps/\fq l x=true:=λx=>by rw[z.mem_iff,av,aET]
  refine⟨jr (ds++g.drop q) q,⟨λx=> ?_,?_,?_⟩,?_⟩
  .rw[O4 az6,s];exact r x
  .refine af0 az6 (by rw[s];exact C) ?_;rw[s];intro a Z b au w t;have A:=v a b ((r a).1 Z).2 ((r b).1 au).2 (by unfold BG xd at w t;omega);refine aEU A ?_;unfold BG xd at w t;rw[A]at w t;omega
  .exact aDn (afZ q) az6
  .have c:=j.ok;have F:=qQ (p::ps);have E:=qQ g;have H:=qQ (ds++g.drop q);generalize (jr (ds++g.drop q) q).map fI=ar at*;generalize cW (ds++g.drop q)=vg at*;generalize cW g=dI at*;generalize cW (p::ps)=nz at*;generalize (p::ps).map fI=L at*;clear j v u o hp h1 af av z C J G s r;unfold zo IC at*;obtain⟨gR,ao,Y,N,cB,ns,S,gn,U,V,P,K⟩:=m;refine Mg.fX (dP f d true++[af1 f d]) λM ae Q k=> ?_;obtain⟨bp,a2,a3⟩:=aV.of ae c.N;obtain⟨bq,aT,b3⟩:=aV.of ae c.S;obtain⟨c1,c2,c3⟩:=aV.of ae c.bI;obtain⟨d1,d2,d3⟩:=aV.of ae c.bJ;obtain⟨bP,bZ,cx⟩:=aV.of ae c.bH;obtain⟨cb,cp,cy⟩:=fU.of ae c.P;dsimp only at bp a2 a3 bq aT b3 c1 c2 c3 d1 d2 d3 bP bZ cx cb cp cy;obtain⟨f0,f1,f2⟩:=aV.of ae F;obtain⟨g0,g1,g2⟩:=aV.of ae E;obtain⟨w1,b5,eG⟩:=aV.of ae H;clear F E H;cases f<;>cases d;all_goals
    dsimp only[bw.s1,bw.s2,bw.tI,bw.st,dP,pJ,dc,cv,af1,List.map_cons,List.map_nil,Nat.reduceAdd]at k aC aX⊢;refine ak ?_
   all_goals (subst ae;exact bS k az5 az5)
theorem af2{d:Type}{R:d->d->Prop}(hi:∀a,¬R a a)(g:∀a b,R a b->¬R b a):∀(l k:List d),l.Pairwise R->k.Pairwise R->(∀x,x∈l↔x∈k)->l=k
 |[],[],_,_,_=>rfl
 |[],b::k,_,_,h=>absurd ((h b).2 (aDa ..)) (aC5)
 |a::l,[],_,_,h=>absurd ((h a).1 (aDa ..)) (aC5)
 |a::l,b::k,h1,n,h=>by
  have ⟨j,p⟩:=aES.1 h1;have ⟨m,o⟩:=aES.1 n;have e:a=b:=by
   rcases aCJ.1 ((h a).1 (aDa ..))with e|e
   .exact e
   .rcases aCJ.1 ((h b).2 (aDa ..))with f|f
    .exact f.symm
    .exact absurd (m a e) (g _ _ (j b f))
  subst e;rw[af2 hi g l k p o λx=>⟨λc=> ?_,λc=> ?_⟩]
  .rcases aCJ.1 ((h x).1 (aDu _ c))with e|e
   .subst e;exact absurd (j x c) (hi x)
   .exact e
  .rcases aCJ.1 ((h x).2 (aDu _ c))with e|e
   .subst e;exact absurd (m x c) (hi x)
   .exact e
def oc(l:List b1)(p:ax×Int):Int×Int:=(gA l p.1,p.2)
theorem awF{l:List b1}(a:Bz l){i:Nat}(hi:i<l.length):gA l l[i].n=Int.ofNat i:=Iv (.inl ⟨rfl,hi,rfl,λj c e=>by have:=a j i az6 hi e;omega⟩)
theorem O6{l:List b1}{v:ax}{i:Nat}(h:gA l v=Int.ofNat i):∃hi:i<l.length,l[i].n=v:=by
 unfold gA at h;split at h
 .rename_i j a;obtain⟨h1,c,_⟩:=aEt.1 a;obtain rfl:j=i:=aEG h;exact⟨h1,by simpa using c⟩
 .simp at h
theorem af3{x:b1}{k:Int}:k∈x.ks↔x.a<=k/\k<=x.b:=by
 unfold b1.ks pI;rw[aCY];constructor
 .rintro⟨j,a,rfl⟩;rw[aDw]at a;simp only[aCy];omega
 .rintro⟨h1,c⟩;exact⟨(k-x.a).toNat,aDw.2 az6,aAo⟩
structure kS(m:bw)(l:List b1)(zs:List Int):Prop where
 D:Bz l
 bf:l.length=m.bf
 s:hq m.bf (iota m.bf) zs
 p:∀k i (h:i<l.length),k<m.bf->zs[k]?=some (Int.ofNat i)->lJ l[i].n m.P=some (.d (int (Int.ofNat k)))
theorem kS.mem{m:bw}{l:List b1}{zs:List Int}(h:kS m l zs)(x:Int×Int):x∈hf l zs↔∃(i:Nat) (hi:i<l.length),x.1=Int.ofNat i/\l[i].a<=x.2/\x.2<=l[i].b:=by
 unfold hf;rw[aD3];constructor
 .rintro⟨z,d,c⟩;obtain⟨j,a,rfl⟩:=pC (h.s.all z d);have a:j<l.length:=h.bf.symm▸a;rw[Iw a]at c;obtain⟨k,g,rfl⟩:=aCY.1 c;exact⟨j,a,rfl,af3.1 g⟩
 .rintro⟨i,hi,h1,f⟩;refine⟨Int.ofNat i,h.s.perm.mem_iff.2 aCt,?_⟩;rw[Iw hi];exact aCY.2 ⟨x.2,af3.2 f,aEU h1.symm rfl⟩
theorem kS.has{m:bw}{l:List b1}{zs:List Int}(h:kS m l zs)(p:ax×Int):fq l p=decide (oc l p∈hf l zs):=by
 rw[Bool.eq_iff_iff,aCA,h.mem];unfold fq oc;constructor
 .intro h1;split at h1
  .rename_i x ai;simp only[aCx,aCA]at h1;obtain⟨a,d⟩:=aDA.1 ai;refine⟨(gA l p.1).toNat,a,(aFj h1.1).symm,?_⟩;rw[d];exact h1.2
  .cases h1
 .rintro⟨i,a,h1,c⟩;have h1:gA l p.1=Int.ofNat i:=h1;rw[h1];show(match l[i]? with|some x=>_|none=>false)=true;rw[aCB a];simp only[aCx,aCA];exact⟨aEf i,c⟩
theorem kS.pos{m:bw}{l:List b1}{zs:List Int}(h:kS m l zs){i:Nat}(hi:i<l.length):∃k:Nat,zs[k]?=some (Int.ofNat i)/\pK m l[i].n=Int.ofNat k:=by
 have d:Int.ofNat i∈zs:=h.s.perm.mem_iff.2 aCt;obtain⟨k,c,e⟩:=aDJ d;have a:zs[k]?=some (Int.ofNat i):=by rw[aCB c,e]
 refine⟨k,a,?_⟩;unfold pK;rw[h.p k i hi (by have:=h.s.len;omega) a]
theorem kS.inj{m:bw}{l:List b1}{zs:List Int}(h:kS m l zs)(a b:ax×Int)(f:fq l a=true)(au:fq l b=true)(e:pK m a.1=pK m b.1):a.1=b.1:=by
 rw[h.has,aCA,h.mem]at f au;obtain⟨i,r,h1,_⟩:=f;obtain⟨j,k,n,_⟩:=au;obtain⟨_,d⟩:=O6 (show gA l a.1=Int.ofNat i from h1);obtain⟨_,c⟩:=O6 (show gA l b.1=Int.ofNat j from n);obtain⟨t,s,o⟩:=h.pos r;obtain⟨k2,g,p⟩:=h.pos k;rw[<-d,<-c,o,p]at e;obtain rfl:t=k2:=aEG e;rw[s]at g;obtain rfl:i=j:=aEG (aDM g);rw[<-d,<-c]
def EB(m:bw)(l:List b1)(a b:Int×Int):Prop:=xd m (oR l a) (oR l b)
theorem awG(x:b1):x.ks.Pairwise (·< ·):=by
 unfold b1.ks pI;refine aGl _ (λa b h=> ?_) (aF8);simp only[aCy];omega
theorem kS.af4{m:bw}{l:List b1}{zs:List Int}(h:kS m l zs):∀j,j<=zs.length->(hf l (zs.take j)).Pairwise (EB m l)
 |0,_=>List.Pairwise.nil
 |j+1,s=>by
  have o:j<zs.length:=s;obtain⟨i,f,r⟩:=pC (h.s.all _ (aCC o));have f:i<l.length:=h.bf.symm▸f;rw[Ix o r f];refine aDR.2 ⟨h.af4 j az6,?_,λx c y u=> ?_⟩
  .refine aGl _ (λa b h=> ?_) (awG l[i]);exact .inr ⟨rfl,h⟩
  .obtain⟨k,_,rfl⟩:=aCY.1 u;unfold hf at c;obtain⟨z,t,c⟩:=aD3.1 c;obtain⟨n,v,e⟩:=aDJ t;rw[aDk]at v;rw[List.getElem_take]at e;obtain⟨g,d,p⟩:=pC (h.s.all _ (aCC (show n<zs.length by omega)));have d:g<l.length:=h.bf.symm▸d;rw[<-e,p,Iw d]at c;obtain⟨A,_,rfl⟩:=aCY.1 c;refine .inl ?_;show pK m (zn l (Int.ofNat g))<pK m (zn l (Int.ofNat i));have w:=h.s.len;rw[Ev d,Ev f];unfold pK;rw[h.p n g d az6 (by rw[aCB az6,p]),h.p j i f az6 (by rw[aCB o,r])];show(n:Int)<j;omega
theorem awH{m:bw}{l:List b1}{zs:List Int}(h:kS m l zs){ps R:List (ax×Int)}(d:afY m l ps R):R.map (oc l)=(hf l zs).filter λx=>decide (x∈ps.map (oc l)):=by
 have f:∀p:ax×Int,fq l p=true->oR l (oc l p)=p:=λp hp=>by
  rw[h.has,aCA,h.mem]at hp;obtain⟨i,n,h1,_⟩:=hp;have h1:gA l p.1=Int.ofNat i:=h1;obtain⟨_,j⟩:=O6 h1;unfold oR oc;refine aEU ?_ rfl;show zn l (gA l p.1)=_;rw[h1,Ev n,j]
 refine af2 (R:=EB m l) (λa h=> ?_) (λa b h1 c=> ?_) _ _ ?_ ?_ λx=> ?_
 .unfold EB xd at h;omega
 .unfold EB xd at h1 c;omega
 .refine List.pairwise_map.2 (List.Pairwise.imp_of_mem (λk au o=> ?_) d.lt);unfold EB;rw[f _ ((d.mem _).1 k).2,f _ ((d.mem _).1 au).2];exact o
 .have:=h.af4 zs.length (aCw _);rw[aDd (aCw _)]at this;exact this.filter _
 .rw[aET,aCA];constructor
  .intro g;obtain⟨p,hp,rfl⟩:=aCY.1 g;obtain⟨h1,c⟩:=(d.mem p).1 hp;rw[h.has,aCA]at c;exact⟨c,aEV h1⟩
  .rintro⟨h1,c⟩;obtain⟨p,hp,rfl⟩:=aCY.1 c;exact aEV ((d.mem p).2 ⟨hp,by rw[h.has,aCA];exact h1⟩)
theorem awI{m:bw}{l:List b1}{zs:List Int}(h:kS m l zs):(hf l zs).map (λp=>oc l (oR l p))=hf l zs:=by
 conv=>rhs;rw[<-List.map_id (hf l zs)]
 refine aER λp hp=> ?_;obtain⟨i,a,h1,_⟩:=(h.mem p).1 hp;unfold oc oR;refine aEU ?_ rfl;show gA l (zn l p.1)=p.1;rw[h1,Ev a,awF h.D a]
theorem awJ{m:bw}{l:List b1}{zs:List Int}(h:kS m l zs)(p:ax×Int)(hp:fq l p=true):∃(i:Nat) (hi:i<l.length),gA l p.1=Int.ofNat i/\vw l p=l[i].s:=by
 have a:=hp;rw[h.has,aCA,h.mem]at hp;obtain⟨i,hi,h1,_⟩:=hp;have h1:gA l p.1=Int.ofNat i:=h1;refine⟨i,hi,h1,?_⟩;unfold vw;rw[a,h1];show(true&&(match l[i]? with|some x=>x.s|none=>false))=_;rw[aCB hi];rfl
def awK(m:bw)(a c:Bool)(A L:List Go.aG.D)(n i:Nat):ag:=cA [(5,.ptr 0 0),(6,.d (.list 2 A)),(44,.d (.list 2 L)),(45,.d (int (Int.ofNat n))),(46,.d (int (Int.ofNat i)))] (m.bm a c true)
theorem awL{m:bw}{aq:Bool}{l:List b1}(f:Es m aq l)(hs:Bool)(zs:List Int)(d:kS m l zs)(X:qN m.P)(K:aL 24 [.ptr 0 0] [.box (cv 1 2 3 m.bf),.box m.bI,.box m.bJ,.box m.bH] (.d (.list 1 (zs.map int))) [.box (cv 1 2 3 m.bf),.box m.bI,.box m.bJ,.box m.bH])
  (BH:aL 6 [] [] (.d (.bool true)) []) (s:ax) (ps:List (ax×Int)) (U:aL 5 [.d (.str s)] [] (.ptr 0 0) (m.bm aq hs true)):
  aL 4 [.d (.str s),.d (.list 2 (ps.map fI))] [] (.d (.bool true)) []:=by
 have a:=f.1;have bx:(ps.map fI).length=ps.length:=aCv _;by_cases bg:40<ps.length
 .have c:=a.ok;generalize ps.map fI=L at*;clear f a d K X;obtain⟨gR,aB,bf,N,cB,ns,ao,gn,bI,bJ,bH,P⟩:=m;refine Hc.fX (vv aq hs) λg ae aM B=> ?_;obtain⟨bp,a2,a3⟩:=aV.of ae c.N;obtain⟨bq,aT,b3⟩:=aV.of ae c.S;obtain⟨c1,c2,c3⟩:=aV.of ae c.bI;obtain⟨d1,d2,d3⟩:=aV.of ae c.bJ;obtain⟨bP,bZ,cx⟩:=aV.of ae c.bH;obtain⟨cb,cp,cy⟩:=fU.of ae c.P;dsimp only at bp a2 a3 bq aT b3 c1 c2 c3 d1 d2 d3 bP bZ cx cb cp cy;obtain⟨n,hZ⟩:∃n,n=ps.length:=⟨_,rfl⟩;have t0:g.len L=n:=aAL;have t1:g.aB .gtr (Int.ofNat n) 40=true:=aCc;cases aq<;>cases hs;all_goals
   dsimp only[bw.bm,vv,dc,cv,qO]at B U⊢;refine ak ?_
  all_goals (subst ae;exact bS B az5 az5)
 have aj:=avN f hs zs d.s K;have aC:=avT f hs zs d.s K;have iC:(hf l zs).length<=16777216:=by
  have h1:=OR f.bm d.s a.bf m.bf (aCw _);rw[aDd (by have:=d.s.len;omega)]at h1;have:=a.od;omega
 obtain⟨R,S,aX⟩:=awD a hs X d.inj ps az6;have oa:=S.len;have o:=OQ a hs ((hf l zs).map (oR l)) aA2;have J:=OQ a hs R az6;have V:=OQ a hs ps az6;have wN:=av0 (hf l zs) (ps.map (oc l)) iC aA2;have jT:=awH d S;have qF:=afn (hf l zs) az6;have Z:=afn (R.map (oc l)) aA2;have q1:((hf l zs).map (oR l)).map (λp=>iw p.1 p.2)=(hf l zs).map λp=>fI (oR l p):=aBw;have bG:((hf l zs).map (oR l)).map (λp=>hF (gA l p.1) p.2)=(hf l zs).map h8:=by
  rw[aDF];conv=>rhs;rw[<-awI d,aDF]
  rfl
 have cM:(ps.map (oc l)).map h8=ps.map λp=>hF (gA l p.1) p.2:=aBw;have dB:(R.map (oc l)).map h8=R.map λp=>hF (gA l p.1) p.2:=aBw;rw[q1,bG]at o;rw[<-jT,cM,dB]at wN;change bD _ _ _ [.d (.list 2 ((hf l zs).map h8)),.d (.list 2 ((hf l zs).map h8))] _ _ _ at qF;change bD _ _ _ [.d (.list 2 ((R.map (oc l)).map h8)),.d (.list 2 ((R.map (oc l)).map h8))] _ _ _ at Z;rw[dB]at Z;change bD _ _ _ _ _ (.d (.list 2 ((hf l zs).map h8))) _ at aj;change bD _ _ _ [_,.d (.list 2 (R.map fI))] _ _ _ at J;change bD _ _ _ [_,.d (.list 2 (ps.map fI))] _ _ _ at V;have u:=λi r=>OO a hs i r (f.aP _ (aCC r)).1 (f.aP _ (aCC r)).2.1 (f.aP _ (aCC r)).2.2;have F:=λv k=>afm a hs v k;have G:=λv k=>afw a hs v k;have H:=λv k=>avW a hs v k
 have Q:=λv k=>(show aL 16 [.d (.list 2 ((hf l zs).map h8)),.d (hF (gA l v) k)] [] (.d (.bool (fq l (v,k)))) []by
  have:=afx (hf l zs) (oc l (v,k)) az6;rw[<-d.has (v,k)]at this;exact this)
 have z:=λp h=>awJ d p h;have E:∀p,fq l p=false->vw l p=false:=λp h=>by unfold vw;rw[h];rfl
 have bY:∀i (h:i<ps.length),(ps.map fI)[i]?=some (fI ps[i]):=λi h=>cY h;have c:=a.ok;have pa:=a.bB;clear f a d K X S jT q1 bG cM dB iC oa;generalize (hf l zs).map h8=A at*;generalize ((hf l zs).map λp=>fI (oR l p))=bA at*;generalize R.map fI=bh at*;generalize (R.map λp=>hF (gA l p.1) p.2)=aZ at*;generalize (ps.map λp=>hF (gA l p.1) p.2)=nx at*;generalize ps.map fI=L at*;obtain⟨gR,aB,bf,N,cB,ns,ao,gn,bI,bJ,bH,P⟩:=m;refine Hc.fX (vv aq hs) λg ae aM B=> ?_;obtain⟨bp,a2,a3⟩:=aV.of ae c.N;obtain⟨bq,aT,b3⟩:=aV.of ae c.S;obtain⟨c1,c2,c3⟩:=aV.of ae c.bI;obtain⟨d1,d2,d3⟩:=aV.of ae c.bJ;obtain⟨bP,bZ,cx⟩:=aV.of ae c.bH;obtain⟨cb,cp,cy⟩:=fU.of ae c.P;dsimp only at bp a2 a3 bq aT b3 c1 c2 c3 d1 d2 d3 bP bZ cx cb cp cy;obtain⟨n,hZ⟩:∃n,n=ps.length:=⟨_,rfl⟩;have t0:g.len L=n:=aAL;have t1:g.aB .gtr (Int.ofNat n) 40=false:=aAg;have aP:g.lD [0] [.bool true] [.bool true]=some true:=aAc;have aR:g.lD [0] [.bool false] [.bool false]=some true:=aAc;have aF:h6 aq:=trivial;have fy:h6 hs:=trivial;cases aq<;>cases hs;all_goals
  dsimp only[bw.st,bw.bm,vv,dP,dc,cv,tH,qO]at B U aj aC aX o J V u F G H⊢;refine ak ?_;refine⟨bX (λj:Nat=>awK ⟨gR,aB,bf,N,cB,ns,ao,gn,bI,bJ,bH,P⟩ (dj aF) (dj fy) A L n j) (λj=>j<=n) (λj=>n-j),_,⟨0,aCu _,rfl,az5⟩,?_⟩;clear U aj aC aX o J V wN qF Z;rintro _ _ ⟨j,aI,rfl,rfl⟩;dsimp only at aI⊢;by_cases C:j<n
  .have qP:j<ps.length:=hZ▸C;have t1:=ek ae C;have t2:=cH ae (bY j qP);have t6:=b9 ae (n:=j) az6;clear bY;generalize ps[j]=p at*;obtain⟨v,k⟩:=p;have aj:=F v k;have aC:=Q v k;have aX:=G v k;have o:=H v k;have z:=z (v,k);have E:=E (v,k);clear F Q G H;unfold fI at t2;dsimp only at t2;cases t:fq l (v,k)with
   |false=>
    rw[t]at aC aX;rw[E t]at o;have t3:=aR;clear u z E t;generalize gA l v=aU at*;unfold iw hF at*;refine ak ?_;all_goals exact fixF (j+1) C
   |true=>
    obtain⟨i,r,M,ar⟩:=z t;first
    |exact absurd (pa rfl▸r) (aDs _)
    |skip
    all_goals
     have J:=u i r;dsimp only at M;rw[t]at aC aX;rw[ar]at o;rw[M]at aj aC;have iq:l[i].s=l[i].c24.s:=rfl;rw[iq]at o;clear iq u z E t M ar;generalize l[i].c24=w at*;obtain⟨wn,Y,nC,oQ,hR,jM,jR,⟨cR,cO,lj,y9,za,zb,zc,zd,ze,zf,zg,zh,zi,zj,zk,zl⟩,zm⟩:=w;unfold iw hF at*;dsimp only at o;have t3:=aP;have t4:g.lD [0] [.bool Y] [.bool Y]=some true:=by subst ae;cases Y<;>rfl
     refine ak ?_;all_goals exact fixF (j+1) C
  .have t1:=en ae C;clear u F G H Q;refine ak ?_;all_goals (subst ae;exact bS B az5 az5)
theorem O8(c:aL 6 [] [] (.d (.bool true)) [])(s:ax)(L:List Go.aG.D)(f:aL 5 [.d (.str s)] [] (.d .dJ) []):
  aL 4 [.d (.str s),.d (.list 2 L)] [] (.d (.bool true)) []:=by
 refine Hc.ct λd ae Q a=> ?_;refine ak ?_;all_goals (subst ae;exact bS a az5 az5)
theorem aos(d:aL 6 [] [] (.d (.bool true)) [])(s:ax)(ps:List (ax×Int)):aL 4 [.d (.str s),.d (.list 2 (ps.map fI))] [] (.d (.bool true)) []:=by
 obtain⟨p,a,e,⟨u,k,v,_,_⟩,j⟩:=adp s;by_cases c:e=0
 .subst c;obtain⟨t,F,J,w⟩:=ad3 p u k;obtain⟨r,H,f,n⟩:=avq p u k v t F w λh=>(J h).2;rcases f with⟨b,e,c,rfl,rfl⟩|⟨rfl,m,aq,hs,b,⟨hm,rfl,code,E⟩,rfl,rfl⟩
  .exact O8 d s _ (afr s b e c (avy s _ a b e c j n))
  .have B:=avz s _ a b m hm aq hs j n;obtain⟨l,g,C,A,K,⟨z,hp⟩,G⟩:=avQ hm E v k;obtain⟨r,H,f,o⟩:=avP g hs s B;rcases f with⟨rfl,rfl⟩|⟨rfl,rfl⟩
   .exact O8 d s _ o
   .exact awL g hs K ⟨C,g.bf,z,hp⟩ A G d s ps o
 .exact O8 d s _ (afr s a e c (avx s _ a e c j))
end Go.Proofs.YthffhbakgmemaaaGreatDoor
