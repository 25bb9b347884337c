/- Part of parts_said. -/
import Derived.Test.YthffhbakgmemaaaGreatDoorB7
import Derived.Test.YthffhbakgmemaaaGreatDoorB6
set_option maxRecDepth 100000
set_option maxHeartbeats 8000000
set_option linter.unusedSimpArgs false
set_option linter.unusedVariables false
namespace Go.Proofs.YthffhbakgmemaaaGreatDoor
open Go Go.aG
attribute [local irreducible] bD
theorem NI(s:ax):∃r:Int,aL 234 [.d (.str s)] [] (.d (int r)) []:=by
 refine hb ?_;refine Zq.cn _ λa ae K c=> ?_;have d:a.dK s=s.length:=aAa;by_cases h1:s.length<1
 .have cI:a.aB .lss (Int.ofNat (a.dK s)) 1=true:=by rw[d,(eS ae).2.1];simp_all
  refine ak ?_;exact c _ _ ⟨_,rfl,az5⟩
 have cI:a.aB .lss (Int.ofNat (a.dK s)) 1=false:=by rw[d,(eS ae).2.1];grind
 by_cases af:2<s.length
 .have d':a.aB .gtr (Int.ofNat (a.dK s)) 2=true:=by rw[d,(eS ae).2.2.2];grind
  refine ak ?_;exact c _ _ ⟨_,rfl,az5⟩
 have d':a.aB .gtr (Int.ofNat (a.dK s)) 2=false:=by rw[d,(eS ae).2.2.2];grind
 have j:a.gI s=s.map fO:=aAa;have m:(a.gI s).length=s.length:=az8;have g:∀i (h:i<s.length),(a.gI s)[i]?=some (fO s[i]):=λi h=>az8;clear j;refine ak ?_;generalize a.gI s=B at*;refine⟨bX (λz:Int×Nat=>cA [(3,.d (int z.1)),(15,.d (.list 1 B)),(16,.d (int (Int.ofNat (a.len B)))),(17,.d (int (Int.ofNat z.2)))] []) (λz=>z.2<=s.length) λz=>s.length-z.2,_,⟨(0,0),aCu _,rfl,az5⟩,?_⟩;rintro _ _ ⟨⟨r,i⟩,k,rfl,rfl⟩;dsimp only at k⊢;by_cases f:i<s.length
 .have g1:a.aB .lss (Int.ofNat i) (Int.ofNat (a.len B))=true:=by simp_all[aH]
  have g2:=cH ae (g i f);have g3:=b9 ae (n:=i) az6;unfold fO at g2;generalize ((s[i].toNat:Nat):Int)=x at*;refine ak ?_;repeat' (split<;>refine ak ?_)
  all_goals first|exact c _ _ ⟨_,rfl,az5⟩|exact vb (λl=>(Nv l 3,i+1)) f (show s.length-(i+1)<s.length-i by omega) az5
 .have g1:a.aB .lss (Int.ofNat i) (Int.ofNat (a.len B))=false:=by simp_all[aH]
  refine ak ?_;exact c _ _ ⟨_,rfl,az5⟩
theorem ass(a b c:Nat)(o:a<=100)(au:b<=100)(n:1<=c)(p:c<=100):∃r:Int,aL 232 [.d (int (Int.ofNat a)),.d (int (Int.ofNat b)),.d (int (Int.ofNat c))] [] (.d (.int .u64 r)) []:=by
 refine hb ?_;refine Zo.cn _ λd ae K f=> ?_;refine ak ?_;refine⟨bX (λz:Int×Nat=>cA [(1,.d (int (Int.ofNat b))),(2,.d (int (Int.ofNat c))),(7,.d (.int .u64 z.1)),(8,.d (int (Int.ofNat z.2)))] []) (λz=>z.2<=200) λz=>b+1-z.2,_,⟨(0,a),az6,rfl,az5⟩,?_⟩;rintro _ _ ⟨⟨r,i⟩,g,rfl,rfl⟩;dsimp only at g⊢;by_cases l:i<=b
 .have g1:d.aB .leq (Int.ofNat i) (Int.ofNat b)=true:=by simp_all[aH]
  have g2:d.aB .geq (Int.ofNat i) 0=true:=aAa;have g3:d.io .add .i64 (Int.ofNat i) (Int.ofNat c)=Int.ofNat (i+c):=mE ae az9 az9;obtain⟨m,j⟩:∃m,m=i+c:=⟨_,rfl⟩;rw[<-j]at g3;refine ak ?_;exact vb (λk=>(Nv k 7,m)) (show m<=200 by omega) (show b+1-m<b+1-i by omega) az5
 .have g1:d.aB .leq (Int.ofNat i) (Int.ofNat b)=false:=by simp_all[aH]
  refine ak ?_;exact f _ _ ⟨_,rfl,az5⟩
theorem Bi(a b c:Int)(f:0<=a/\a<=100)(au:0<=b/\b<=100)(d:1<=c/\c<=100):∃r:Int,aL 232 [.d (int a),.d (int b),.d (int c)] [] (.d (.int .u64 r)) []:=by
 obtain⟨r,h⟩:=ass a.toNat b.toNat c.toNat az6 az6 az6 az6;grind
theorem ad5(f:Int)(c:f=0\/f=1\/f=2\/f=3\/f=4):∃r:Int,aL 195 [.d (int f)] [] (.d (.int .u64 r)) []:=by
 refine hb ?_;obtain⟨r0,j⟩:=Bi 0 59 1 az' az' az';obtain⟨b7,aj⟩:=Bi 0 23 1 az' az' az';obtain⟨cq,aC⟩:=Bi 1 31 1 az' az' az';obtain⟨dG,aX⟩:=Bi 1 12 1 az' az' az';obtain⟨rv,g⟩:=Bi 0 6 1 az' az' az';refine Y7.cn _ λd ae K a=> ?_;rcases c with rfl|rfl|rfl|rfl|rfl
 all_goals
  refine ak ?_;exact a _ _ ⟨_,rfl,az5⟩
theorem ast(s:ax)(c:UInt8):∃r:Int,(r= -1\/∃k:Nat,k<s.length/\r=Int.ofNat k)/\aL 327 [.d (.str s),.d (.int .u8 (Int.ofNat c.toNat))] [] (.d (int r)) []:=
 ⟨_,Uo s _,am8 an5 an4⟩
theorem ad6(s:ax)(c:UInt8):∃r:Int,(r= -1\/∃k:Nat,k<s.length/\r=Int.ofNat k)/\aL 304 [.d (.str s),.d (.str [c])] [] (.d (int r)) []:=by
 refine eW ?_;obtain⟨r,g,aj⟩:=ast s c;refine VY.cn _ λa ae K d=> ?_;have h1:a.dK [c]=1:=aAa;have af:a.aB .eql (Int.ofNat 1) 0=false:=aAf;have av:a.aB .eql (Int.ofNat 1) 1=true:=aAf;have j:a.yl 0 1=true:=aAa;have l:a.wx [c] 0=c:=aAa;by_cases m:[c]=s
 .have f:a.bm .eql [c] s=true:=by grind[ads]
  refine ak ?_;exact d _ _ ⟨0,.inr ⟨0,az9,rfl⟩,rfl,az5⟩
 .have f:a.bm .eql [c] s=false:=by grind[ads]
  conv=>cbv
  repeat' ((first|refine dD ?_|refine dE ?_|simp -proj only[h1,af,av,j,l,f]|(split<;>(rename_i h;try simp only[h])))<;>conv=>cbv)
  exact d _ _ ⟨r,g,rfl,az5⟩
theorem NJ(s:ax)(c:UInt8):∃r:Int,(r= -1\/∃k:Nat,k<s.length/\r=Int.ofNat k)/\aL 269 [.d (.str s),.d (.str [c])] [] (.d (int r)) []:=by
 obtain⟨r,a,aj⟩:=ad6 s c;refine⟨r,a,?_⟩;refine VQ.ct λf ae Q d=> ?_;refine ak ?_
 (subst ae;exact bS d az7 az5)
theorem asu(s:ax)(c:UInt8)(p:s.length<=1073741824):∃(a b:ax) (f:Bool),(a.length<=s.length/\b.length<=s.length)/\aL 270 [.d (.str s),.d (.str [c])] [] (.tuple [.d (.str a),.d (.str b),.d (.bool f)]) []:=by
 refine G8 ?_;obtain⟨r,l,aj⟩:=ad6 s c;refine VS.cn _ λd ae K j=> ?_;have h1:d.dK [c]=1:=aAa;have bB:d.dK s=s.length:=aAa;rcases l with rfl|⟨k,hk,rfl⟩
 .have cI:d.aB .geq (-1) 0=false:=by rw[(eS ae).2.2.1];rfl
  refine ak ?_;exact j _ _ ⟨s,[],false,⟨aCw _,aCu _⟩,rfl,az5⟩
 .have cI:d.aB .geq (Int.ofNat k) 0=true:=by rw[(eS ae).2.2.1];simp
  have d':d.io .add .i64 (Int.ofNat k) (Int.ofNat 1)=Int.ofNat (k+1):=b9 ae (n:=k) az6;have l4:d.nn 0 (Int.ofNat k) s.length=true:=aCh;have jz:d.nn (Int.ofNat (k+1)) (Int.ofNat s.length) s.length=true:=aCh;have q1:(d.gN s 0 (Int.ofNat k)).length<=s.length:=aAa;have bG:(d.gN s (Int.ofNat (k+1)) (Int.ofNat s.length)).length<=s.length:=aAa;obtain⟨m,o⟩:∃m,m=k+1:=⟨_,rfl⟩;obtain⟨n,g⟩:∃n,n=s.length:=⟨_,rfl⟩;rw[<-o]at d' jz bG;rw[<-g]at l4 jz q1 bG bB;conv=>cbv
  repeat' ((first|refine dD ?_|refine dE ?_|simp -proj only[cI,d',l4,jz,bB,h1]|(split<;>(rename_i h;try simp only[h])))<;>conv=>cbv)
  exact j _ _ ⟨_,_,true,⟨aDn q1 (aEO g),aDn bG (aEO g)⟩,rfl,az5⟩
theorem ad7(s:ax)(c:UInt8)(g:s.length<=1073741824):∃(a b:ax) (f:Bool),(a.length<=s.length/\b.length<=s.length)/\aL 233 [.d (.str s),.d (.str [c])] [] (.tuple [.d (.str a),.d (.str b),.d (.bool f)]) []:=by
 obtain⟨a,b,f,h,aj⟩:=asu s c g;refine⟨a,b,f,h,?_⟩;refine VC.ct λj ae Q d=> ?_;refine ak ?_
 (subst ae;exact bS d az7 az5)
theorem asv(s:ax)(c:UInt8):∃b:Bool,aL 213 [.d (.str s),.d (.str [c])] [] (.d (.bool b)) []:=by
 refine hb ?_;refine My.cn _ λa ae K d=> ?_;have h1:a.dK [c]=1:=aAa;have bB:a.dK s=s.length:=aAa;by_cases f:1<=s.length
 .have cI:a.aB .geq (Int.ofNat (a.dK s)) (Int.ofNat 1)=true:=by rw[bB,(eS ae).2.2.1];grind
  have l4:a.nn 0 (Int.ofNat 1) (a.dK s)=true:=aAa;refine ak ?_;exact d _ _ ⟨_,rfl,az5⟩
 .have cI:a.aB .geq (Int.ofNat (a.dK s)) (Int.ofNat 1)=false:=by rw[bB,(eS ae).2.2.1];simp_all
  refine ak ?_;exact d _ _ ⟨_,rfl,az5⟩
theorem asw(s:ax)(c:UInt8)(f:s.length<=1073741824):∃b:Bool,aL 231 [.d (.str s),.d (.str [c])] [] (.d (.bool b)) []:=by
 refine hb ?_;refine abw.cn _ λa ae K d=> ?_;have h1:a.dK [c]=1:=aAa;have bB:a.dK s=s.length:=aAa;by_cases j:1<=s.length
 .have cI:a.aB .geq (Int.ofNat (a.dK s)) (Int.ofNat 1)=true:=by rw[bB,(eS ae).2.2.1];grind
  obtain⟨m,g⟩:∃m,s.length=m+1:=⟨s.length-1,az6⟩;have d':a.io .sub .i64 (Int.ofNat (a.dK s)) (Int.ofNat 1)=Int.ofNat m:=by grind[qx]
  have l4:a.nn (Int.ofNat m) (Int.ofNat (a.dK s)) (a.dK s)=true:=by rw[bB];simp only[aH ae,aCx,aCA,aCy];omega
  refine ak ?_;exact d _ _ ⟨_,rfl,az5⟩
 .have cI:a.aB .geq (Int.ofNat (a.dK s)) (Int.ofNat 1)=false:=by rw[bB,(eS ae).2.2.1];simp_all
  refine ak ?_;exact d _ _ ⟨_,rfl,az5⟩
theorem asx(s:ax)(c:UInt8):∃b:Bool,aL 171 [.d (.str s),.d (.str [c])] [] (.d (.bool b)) []:=by
 obtain⟨b,aj⟩:=asv s c;refine⟨b,?_⟩;refine Ml.ct λd ae Q a=> ?_;refine ak ?_
 (subst ae;exact bS a az7 az5)
theorem asy(s:ax)(c:UInt8)(d:s.length<=1073741824):∃b:Bool,aL 194 [.d (.str s),.d (.str [c])] [] (.d (.bool b)) []:=by
 obtain⟨b,aj⟩:=asw s c d;refine⟨b,?_⟩;refine abg.ct λf ae Q a=> ?_;refine ak ?_
 (subst ae;exact bS a az7 az5)
theorem asz{a b c:Int}{K:ah->aY->Prop}(h:(0<=a/\a<=100)/\(0<=b/\b<=100)/\1<=c/\c<=100)(d:∀r:Int,K (.d (.int .u64 r)) []):∃r s2,aL 232 [.d (int a),.d (int b),.d (int c)] [] r s2/\K r s2:=by
 obtain⟨r,e⟩:=Bi a b c h.1 h.2.1 h.2.2;exact⟨_,_,e,d r⟩
def yO(k:IntKind):ah->Bool
 |.d (.int j _)=>decide (j=k)
 |_=>false
theorem D8{k:IntKind}{v:ah}(h:yO k v=true):∃n,v=.d (.int k n):=by
 unfold yO at h;split at h
 .simp only[aCA]at h;subst h;exact⟨_,rfl⟩
 .simp at h
def qq(lo hi:Int)(x:Go.aG.aD)(st:ag):Prop:=st.bM=(λ_=>none)/\st.s=[]/\match x with
 |.ret=>yO .u64 (st.aR 4)=true/\yO .i64 (st.aR 5)=true
 |.normal=>yO .i64 (st.aR 11)=true/\yO .i64 (st.aR 12)=true/\yO .i64 (st.aR 13)=true/\st.aR 6=.d (int lo)/\st.aR 7=.d (int hi)
 |_=>False
set_option maxHeartbeats 40000000 in
theorem ad8(f:Int)(o:f=0\/f=1\/f=2\/f=3\/f=4)(s:ax)(v:s.length<=1073741824):∃(r e:Int),aL 196 [.d (int f),.d (.str s)] [] (.tuple [.d (.int .u64 r),.d (int e)]) []:=by
 refine wC ?_;obtain⟨a,b,P,⟨k,au⟩,aj⟩:=ad7 s 47 v;obtain⟨dG,aC⟩:=NI b;obtain⟨a2,aT,M,⟨L,G⟩,aX⟩:=ad7 a 45 az6;obtain⟨b7,E⟩:=NI a2;obtain⟨cq,F⟩:=NI aT;refine Xq.cn _ λQ ae K j=> ?_;clear k au L G v;obtain⟨g,d,J,C,z⟩:∃g d:Int,0<=g/\d<=100/\((f=0/\g=0/\d=59)\/(f=1/\g=0/\d=23)\/(f=2/\g=1/\d=31)\/(f=3/\g=1/\d=12)\/(f=4/\g=0/\d=6)):=by
  rcases o with rfl|rfl|rfl|rfl|rfl
  .exact⟨0,59,az',az',.inl ⟨rfl,rfl,rfl⟩⟩
  .exact⟨0,23,az',az',.inr (.inl ⟨rfl,rfl,rfl⟩)⟩
  .exact⟨1,31,az',az',.inr (.inr (.inl ⟨rfl,rfl,rfl⟩))⟩
  .exact⟨1,12,az',az',.inr (.inr (.inr (.inl ⟨rfl,rfl,rfl⟩)))⟩
  .exact⟨0,6,az',az',.inr (.inr (.inr (.inr ⟨rfl,rfl,rfl⟩)))⟩
 clear o;refine yu ae [_,_,_,_,_,_,_] (qq g d) ?_ ?_
 .clear j J C;rcases z with⟨rfl,rfl,rfl⟩|⟨rfl,rfl,rfl⟩|⟨rfl,rfl,rfl⟩|⟨rfl,rfl,rfl⟩|⟨rfl,rfl,rfl⟩
  all_goals cases P
  all_goals cases M
  all_goals
   refine ak ?_;repeat' (split<;>refine ak ?_)
   all_goals first
    |trivial
    |exact⟨az5,az5,az5,az5⟩
    |(repeat' (first|exact trivial|apply And.intro|kernel_rfl))
    |exact⟨az5,az5,az5,az5,az5,az5,az5⟩
 .clear z aj aC aX E F;intro x N A;obtain⟨aR,R,S⟩:=N;obtain⟨h1,af,av⟩:=A;dsimp only at h1 af av;subst h1;subst af;cases x with
  |exit i=>exact av.elim
  |ret=>
   obtain⟨n,B⟩:=D8 av.1;obtain⟨m,H⟩:=D8 av.2;clear av;conv=>cbv
   repeat' ((first|refine dD ?_|refine dE ?_|simp -proj only[B,H]|(split<;>(rename_i h;try simp only[h])))<;>conv=>cbv)
   exact j _ _ ⟨_,_,rfl,az5⟩
  |normal=>
   obtain⟨c,l⟩:=D8 av.1;obtain⟨a,k⟩:=D8 av.2.1;obtain⟨b,au⟩:=D8 av.2.2.1;obtain⟨t,u⟩:=av.2.2.2;clear av
   have w:Dn aR [(11,.d (int c)),(12,.d (int a)),(13,.d (int b)),(6,.d (int g)),(7,.d (int d))]=aR:=LU (by
    intro p hp;simp only[aCJ,aC5,aDW]at hp;rcases hp with rfl|rfl|rfl|rfl|rfl
    .exact l
    .exact k
    .exact au
    .exact t
    .exact u)
   rw[<-w];clear w l k au t u;refine ak ?_;repeat' (split<;>refine ak ?_)
   all_goals first
    |exact j _ _ ⟨_,_,rfl,az5⟩
    |(refine asz (by simp only[aH ae,aCE]at*;omega) λr=> ?_
      conv=>cbv
      exact j _ _ ⟨_,_,rfl,az5⟩)
end Go.Proofs.YthffhbakgmemaaaGreatDoor
