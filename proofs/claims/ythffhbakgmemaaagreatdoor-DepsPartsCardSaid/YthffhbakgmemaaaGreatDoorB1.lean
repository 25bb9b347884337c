/- Part of parts_said. -/
import Derived.Test.YthffhbakgmemaaaGreatDoorD
set_option maxRecDepth 100000
set_option maxHeartbeats 8000000
set_option linter.unusedSimpArgs false
set_option linter.unusedVariables false
namespace Go.Proofs.YthffhbakgmemaaaGreatDoor
open Go Go.aG
attribute [local irreducible] bD
abbrev ax:=List UInt8
abbrev int(n:Int):D:=.int .i64 n
def Hg(c:UInt8):Bool:=decide (97<=c.toNat)&&decide (c.toNat<=122)
def Hh(c:UInt8):Bool:=decide (48<=c.toNat)&&decide (c.toNat<=57)
def Dz(c:UInt8):Bool:=Hg c||Hh c||decide (c.toNat=95)
def MU(c:UInt8):Bool:=!decide (c.toNat=10)
theorem Hi:hP a1 gl (rK ext tab gl 1000 60):=uT MF uZ 60
theorem aot(c:UInt8):aL 165 [.d (fO c)] [] (.d (.bool (Hg c))) []:=GI Hi az5 c
theorem acC(c:UInt8):aL 167 [.d (fO c)] [] (.d (.bool (Hh c))) []:=GI Hi az5 c
theorem aou(c:UInt8):aL 166 [.d (fO c)] [] (.d (.bool (Dz c))) []:=GI Hi az5 c
theorem aov(c:UInt8):aL 164 [.d (fO c)] [] (.d (.bool (MU c))) []:=GI Hi az5 c
theorem MV:∀l:ax,nJ (l.map fO)=some l
 |[]=>rfl
 |c::t=>by
  show(match nJ (t.map fO)with|some s=>some (UInt8.ofNat (Int.toNat (c.toNat:Int))::s)|none=>none)=_;rw[MV t];simp
theorem getD_map{a:Type}{f:a->D}{d:D}{l:List a}{i:Nat}(h:i<l.length):(l.map f).getD (Int.toNat (i:Int)) d=f l[i]:=az8
theorem u0(k m:Nat)(h:k+m<=2147483648):IntKind.i64.wrap ((k:Int)+(m:Int))=((k+m:Nat):Int):=by
 grind[IntKind.wrap,IntKind.bits]
structure Tok where
 k:Int
 t:ax
 n:Int
 p:Nat
def Tok.d(x:Tok):D:=.agg [int x.k,.str x.t,int x.n,int x.p]
def pw(l:List Tok):D:=.list 4 (l.map Tok.d)
def eb(n:Int):Prop:= -9223372036854775808<=n/\n<=9223372036854775807
def u1(t:Tok):Prop:=t.t.length<=16384/\eb t.n
theorem eb.zero:eb 0:=by grind[eb]
def oE(k n:Int)(t:ax):D:=.agg [int k,int n,.str t]
theorem mE{c:bd}(h:c=bd.bU){a b:Int}(h1:0<=a+b)(d:a+b<=9223372036854775807):c.io .add .i64 a b=a+b:=by subst h;exact aG.wrap_small h1 d
theorem DA{c:bd}(h:c=bd.bU){a b:Int}(h1:0<=a-b)(d:a-b<=9223372036854775807):c.io .sub .i64 a b=a-b:=by subst h;exact aG.wrap_small h1 d
theorem b9{a:bd}(h:a=bd.bU){n:Nat}(c:n<=4611686018427387904):a.io .add .i64 (Int.ofNat n) 1=Int.ofNat (n+1):=mE h az9 az9
theorem qx{a:bd}(h:a=bd.bU){n m:Nat}(c:n=m+1)(d:m<=4611686018427387904):a.io .sub .i64 (Int.ofNat n) 1=Int.ofNat m:=by
 grind[DA]
theorem ek{c:bd}(h:c=bd.bU){a b:Nat}(hh:a<b):c.aB .lss (Int.ofNat a) (Int.ofNat b)=true:=aB'
theorem en{c:bd}(h:c=bd.bU){a b:Nat}(hh:¬a<b):c.aB .lss (Int.ofNat a) (Int.ofNat b)=false:=aCa
theorem cH{a:bd}(h:a=bd.bU){l:List D}{i:Nat}{d:D}(hi:l[i]?=some d):a.get l (Int.ofNat i)=d:=by
 subst h;show l.getD i .dJ=_;simp_all
theorem cY{a:Type}{f:a->D}{l:List a}{i:Nat}(h:i<l.length):(l.map f)[i]?=some (f l[i]):=az8
theorem Hj{a:bd}(h:a=bd.bU){s:ax}{i:Nat}(hi:i<s.length):a.wx s (Int.ofNat i)=s[i]:=by
 subst h;show s.getD i 0=_;rw[aC4,aCB hi];rfl
theorem AT{a:bd}(h:a=bd.bU){i n:Nat}(hi:i<n):a.yl (Int.ofNat i) n=true:=aCb
theorem AU{a:bd}(h:a=bd.bU){i j n:Nat}(hi:i<=j)(c:j<=n):a.nn (Int.ofNat i) (Int.ofNat j) n=true:=aCb
def aow(s:ax)(g i:Nat):ag:=cA [(0,.d (.str s)),(1,.d (int (Int.ofNat i))),(2,.d (.fn g))] []
theorem MW(s:ax)(k g:Nat)(p:UInt8->Bool)(m:∀c,aL g [.d (fO c)] [] (.d (.bool (p c))) [])(w:k<=s.length)(z:s.length<=16384):
  ∃r:Nat,(k<=r/\r<=s.length/\∀h:k<s.length,p s[k]=true->k<r)/\aL 163 [.d (.str s),.d (int (Int.ofNat k)),.d (.fn g)] [] (.d (int (Int.ofNat r))) []:=by
 refine eW ?_;refine Xa.cn _ λo ae K l=> ?_;obtain⟨n,aq⟩:∃n,n=s.length:=⟨_,rfl⟩;have t0:o.dK s=n:=aAI;refine ak ?_;refine⟨bX (λi:Nat=>aow s g i) (λi=>k<=i/\i<=n/\(i=k\/k<i)) (λi=>n-i),_,⟨k,⟨aCw _,az6,.inl rfl⟩,rfl,az5⟩,?_⟩;rintro _ _ ⟨i,⟨d,t,f⟩,rfl,rfl⟩;dsimp only at d t f⊢;by_cases a:i<n
 .have u:i<s.length:=aq▸a;have t1:=ek ae a;have t2:=AT ae a;have t3:=Hj ae u;have t6:=b9 ae (n:=i) az6;have aj:=m s[i];have j:p s[i]=false->∀h:k<s.length,p s[k]=true->k<i:=λh af av=>by
   rcases f with rfl|f
   .rw[h]at av;cases av
   .exact f
  generalize s[i]=c at*;generalize p c=b at*;unfold fO at*;cases b with
  |true=>
   refine ak ?_;all_goals exact fixF (i+1) ⟨aGf d,a,.inr (Nat.lt_succ_of_le d)⟩
  |false=>
   have j:=j rfl;refine ak ?_;all_goals exact l _ _ ⟨i,⟨d,az6,j⟩,rfl,az5⟩
 .have t1:=en ae a;have v:i=n:=az6;refine ak ?_;all_goals exact l _ _ ⟨i,⟨d,az6,λh _=>az6⟩,rfl,az5⟩
def aox(s:ax)(i:Nat):ag:=cA [(0,.d (.str s)),(1,.d (int (Int.ofNat i)))] []
theorem acD(s:ax)(k:Nat)(v:k<=s.length)(t:s.length<=16384):∃r:Nat,(k<=r/\r<=s.length)/\aL 116 [.d (.str s),.d (int (Int.ofNat k))] [] (.d (int (Int.ofNat r))) []:=by
 refine eW ?_;refine WQ.cn _ λa ae K l=> ?_;obtain⟨n,aq⟩:∃n,n=s.length:=⟨_,rfl⟩;have t0:a.dK s=n:=aAI;refine ak ?_;refine⟨bX (λi:Nat=>aox s i) (λi=>k<=i/\i<=n) (λi=>n-i),_,⟨k,⟨aCw _,az6⟩,rfl,az5⟩,?_⟩;rintro _ _ ⟨i,⟨j,p⟩,rfl,rfl⟩;dsimp only at j p⊢;by_cases g:i<n
 .have m:i<s.length:=aq▸g;have t1:=ek ae g;have t2:=AT ae g;have t3:=Hj ae m;have t6:=b9 ae (n:=i) az6;obtain⟨r,⟨h1,af,av⟩,aj⟩:=MW s i _ MU aov az6 t;have av:=av m
  have q1:a.aB .eql (Int.ofNat s[i].toNat) 35=true->i<r:=λh=>av (by
   simp only[aH ae,aCA]at h;unfold MU;simp only[aCX,aCE];simp only[aCy]at h;omega)
  generalize s[i]=c at*;clear av;obtain⟨⟨⟨d,w⟩⟩⟩:=c;change a.aB .eql (Int.ofNat d) 35=true->_ at q1;by_cases f:a.aB .eql (Int.ofNat d) 35=true
  .have u:=q1 f;have o:Int.ofNat d=35:=by simp only[aH ae,aCA]at f;exact f
   have fw:a.aB .eql (Int.ofNat d) 32=false:=aBL;have eY:a.aB .eql (Int.ofNat d) 9=false:=aBL;have fa:a.aB .eql (Int.ofNat d) 10=false:=aBL;have fG:=f;clear f o;refine ak ?_;all_goals exact fixF r ⟨by show k<=r;omega,by show r<=n;omega⟩
  .have fw:a.aB .eql (Int.ofNat d) 35=false:=by cases h:a.aB .eql (Int.ofNat d) 35 with|true=>exact absurd h f|false=>rfl
   refine ak ?_;repeat' (split<;>refine ak ?_)
   all_goals first
    |exact fixF (i+1) ⟨aGf j,g⟩
    |exact l _ _ ⟨i,⟨j,az6⟩,rfl,az5⟩
 .have t1:=en ae g;refine ak ?_;all_goals exact l _ _ ⟨i,⟨j,az6⟩,rfl,az5⟩
def aoy(s:ax)(i:Nat):ag:=cA [(0,.d (.str s)),(5,.d (int (Int.ofNat i)))] []
theorem aoz(s:ax)(k:Nat)(A:k<s.length)(B:s.length<=16384):∃r:Int,(r= -1\/∃j:Nat,r=Int.ofNat j/\k+2<=j/\j<=s.length)/\aL 169 [.d (.str s),.d (int (Int.ofNat k))] [] (.d (int r)) []:=by
 refine eW ?_;refine Xc.cn _ λg ae K l=> ?_;obtain⟨n,aq⟩:∃n,n=s.length:=⟨_,rfl⟩;have t0:g.dK s=n:=aAI;have t6:=b9 ae (n:=k) az6;refine ak ?_;refine⟨bX (λi:Nat=>aoy s i) (λi=>k+1<=i/\i<=n+1) (λi=>n+1-i),_,⟨k+1,⟨aCw _,az6⟩,rfl,az5⟩,?_⟩;clear t6;rintro _ _ ⟨i,⟨w,u⟩,rfl,rfl⟩;dsimp only at w u⊢;by_cases f:i<n
 .have o:i<s.length:=aq▸f;have t1:=ek ae f;have t2:=AT ae f;have t3:=Hj ae o;have t6:=b9 ae (n:=i) az6;have t7:=b9 ae (n:=i+1) az6;generalize s[i]=c at*;obtain⟨⟨⟨t,C⟩⟩⟩:=c;have m:k+2<=i+1:=az6;have p:i+1<=s.length:=o;obtain⟨a,z⟩:∃a,a=i+1:=⟨_,rfl⟩;obtain⟨d,v⟩:∃d,d=a+1:=⟨_,rfl⟩;rw[<-z]at t6 t7 m p;rw[<-v]at t7;cases fw:g.aB .eql (Int.ofNat t) 92 with
  |true=>
   refine ak ?_;all_goals exact fixF d ⟨by show k+1<=d;omega,by show d<=n+1;omega⟩
  |false=>
   refine ak ?_;repeat' (split<;>refine ak ?_)
   all_goals first
    |exact fixF a ⟨by show k+1<=a;omega,by show a<=n+1;omega⟩
    |exact l _ _ ⟨_,.inr ⟨a,rfl,m,p⟩,rfl,az5⟩
 .have t1:=en ae f;refine ak ?_;all_goals exact l _ _ ⟨-1,.inl rfl,rfl,az5⟩
theorem MX{a:bd}(h:a=bd.bU)(s:ax):a.len (a.gI s)=s.length:=by subst h;exact aCv _
theorem MY{a:bd}(h:a=bd.bU){s:ax}{i:Nat}(hi:i<s.length):a.get (a.gI s) (Int.ofNat i)=fO s[i]:=cH h (by subst h;exact cY hi)
theorem acE{a:bd}(h:a=bd.bU){R:List D}{o:ax}(d:R=o.map fO)(c:UInt8):a.app R [fO c]=(o++[c]).map fO:=by subst h;rw[d,aCR];rfl
theorem aoA(s:ax)(u:s.length<=16384):∃w:ax,w.length<=s.length/\aL 211 [.d (.str s)] [] (.d (.str w)) []:=by
 refine eW ?_;refine Vu.cn _ λk ae K m=> ?_;obtain⟨n,d⟩:∃n,n=s.length:=⟨_,rfl⟩;have t0:=(MX ae s).trans d.symm;have l:=λi (h:i<s.length)=>MY ae h;have g:=λ(R:List D) (o:ax) (c:UInt8) (h:R=o.map fO)=>acE ae h c;generalize t5:k.gI s=L at*;refine ak ?_;refine⟨bX (λz:Nat×Bool×List D=>cA [(3,.own 1 z.2.2),(4,.d (.bool z.2.1)),(8,.d (.list 1 L)),(9,.d (int (Int.ofNat n))),(10,.d (int (Int.ofNat z.1)))] []) (λz=>z.1<=n/\∃o:ax,z.2.2=o.map fO/\o.length<=z.1) (λz=>n-z.1),_,⟨(0,false,[]),⟨aCu _,[],rfl,aCw _⟩,rfl,az5⟩,?_⟩;rintro _ _ ⟨⟨i,e,R⟩,⟨r,o,bK,f⟩,rfl,rfl⟩;dsimp only at r bK f⊢;by_cases a:i<n
 .have t1:=ek ae a;have t2:=l i (d▸a);have t6:=b9 ae (n:=i) az6;have g:=g R o (s[i]'(d▸a)) bK;have t:R.length<=16384:=aAX;have j:=λc:UInt8=>show(o++[c]).length<=i+1 by rw[aCF];exact Nat.succ_le_succ f
  generalize s[i]'(d▸a)=c at*;have j:=j c;clear l;unfold fO at*;obtain⟨⟨⟨p,v⟩⟩⟩:=c;cases fw:k.aB .eql (Int.ofNat p) 92<;>cases e;case true.false=>
   refine ak ?_;all_goals exact fixF (i+1,true,R) ⟨a,_,bK,aGf f⟩
  all_goals
   refine ak ?_;all_goals exact fixF (i+1,false,_) ⟨a,_,g,j⟩
 .have t1:=en ae a;have t2:nJ R=some o:=by rw[bK];exact MV o
  conv at t2=>lhs;cbv
  refine ak ?_;all_goals exact m _ _ ⟨o,az6,rfl,az5⟩
theorem MZ(s:ax):aL 135 [.d (.str s)] [] (.d (.agg [int 2,int 0,.str s])) []:=by
 refine W1.hB ?_;refine db ?_;exact⟨az5,az5⟩
theorem M0:aL 210 [] [] (.d (.agg [int 0,int 0,.str []])) []:=by
 refine abp.hB ?_;refine db ?_;exact⟨az5,az5⟩
theorem Hk(n:Int):aL 212 [.d (int n)] [] (.d (.agg [int 1,int n,.str []])) []:=by
 refine Vw.hB ?_;refine db ?_;exact⟨az5,az5⟩
theorem aoB(s:ax)(l:s.length<=1073741824):∃b:Bool,aL 229 [.d (.str s)] [] (.d (.bool b)) []:=by
 refine hb ?_;refine Zm.cn _ λj ae K f=> ?_;obtain⟨n,d⟩:∃n,n=s.length:=⟨_,rfl⟩;have t0:=(MX ae s).trans d.symm;have g:=λi (h:i<s.length)=>MY ae h;generalize t5:j.gI s=L at*;refine ak ?_;refine⟨bX (λi:Nat=>cA [(0,.d (.str s)),(6,.d (.list 1 L)),(7,.d (int (Int.ofNat n))),(8,.d (int (Int.ofNat i)))] []) (λi=>i<=n) (λi=>n-i),_,⟨0,aCu _,rfl,az5⟩,?_⟩;rintro _ _ ⟨i,k,rfl,rfl⟩;dsimp only at k⊢;by_cases a:i<n
 .have t1:=ek ae a;have t2:=g i (d▸a);have t6:=b9 ae (n:=i) az6;generalize s[i]'(d▸a)=c at*;clear g;unfold fO at*;refine ak ?_;repeat' (split<;>refine ak ?_)
  all_goals first
   |exact fixF (i+1) a
   |exact f _ _ ⟨_,rfl,az5⟩
 .have t1:=en ae a;refine ak ?_;all_goals exact f _ _ ⟨_,rfl,az5⟩
theorem aoC(s:ax)(v:s.length<=1073741824):∃w:ax,w.length<=2*s.length+2/\aL 184 [.d (.str s)] [] (.d (.str w)) []:=by
 refine eW ?_;refine Y3.cn _ λd ae K l=> ?_;obtain⟨n,g⟩:∃n,n=s.length:=⟨_,rfl⟩;have t0:=(MX ae s).trans g.symm;have k:=λi (h:i<s.length)=>MY ae h;have f:=λ(R:List D) (o:ax) (c:UInt8) (h:R=o.map fO)=>acE ae h c;generalize t5:d.gI s=L at*;refine ak ?_;refine⟨bX (λz:Nat×List D=>cA [(3,.own 1 z.2),(8,.d (.list 1 L)),(9,.d (int (Int.ofNat n))),(10,.d (int (Int.ofNat z.1)))] []) (λz=>z.1<=n/\∃o:ax,z.2=o.map fO/\o.length<=2*z.1+1) (λz=>n-z.1),_,⟨(0,[.int .u8 34]),⟨aCu _,[34],rfl,aCw _⟩,rfl,az5⟩,?_⟩;rintro _ _ ⟨⟨i,R⟩,⟨r,o,bK,m⟩,rfl,rfl⟩;dsimp only at r bK m⊢;have u:R.length<=4294967296:=aAX;by_cases a:i<n
 .have t1:=ek ae a;have t2:=k i (g▸a);have t6:=b9 ae (n:=i) az6;generalize s[i]'(g▸a)=c at*;have w1:=f R o c bK;have b5:=f R o 92 bK;have eG:=f _ _ c b5;have l1:(o++[c]).length<=2*(i+1)+1:=aBM;have p:((o++[92])++[c]).length<=2*(i+1)+1:=aBM;have B:(d.app R [fO 92]).length<=4294967296:=by rw[b5,aCv,aCF];simp only[aCU,aDm];omega
  clear k f b5;unfold fO at*;obtain⟨⟨⟨j,A⟩⟩⟩:=c;cases fw:d.aB .eql (Int.ofNat j) 34<;>cases eY:d.aB .eql (Int.ofNat j) 92;case false.false=>
   refine ak ?_;all_goals exact fixF (i+1,_) ⟨a,_,w1,l1⟩
  all_goals
   refine ak ?_;all_goals exact fixF (i+1,_) ⟨a,_,eG,p⟩
 .have t1:=en ae a;have w1:=f R o 34 bK;have l1:(o++[34]).length<=2*s.length+2:=aBM;obtain⟨w,t⟩:∃w,w=o++[34]:=⟨_,rfl⟩;rw[<-t]at w1 l1;have t2:nJ (d.app R [.int .u8 34])=some w:=(congrArg nJ w1).trans (MV _);conv at t2=>lhs;cbv
  refine ak ?_;all_goals exact l _ _ ⟨_,l1,rfl,az5⟩
theorem acF(k n:Int)(t:ax)(a:t.length<=1073741824):∃b:Bool,aL 183 [.d (oE k n t)] [] (.d (.bool b)) []:=by
 refine hb ?_;obtain⟨b,aj⟩:=aoB t a;refine Vk.cn _ λd ae K c=> ?_;refine ak ?_;repeat' (split<;>refine ak ?_)
 all_goals exact c _ _ ⟨_,rfl,az5⟩
theorem aoD{n:Int}(h:eb n):aL 181 [.d (int n)] [] (.d (.str (Lib.itoa n))) []:=am6 exts.ci an3 h.1 h.2
theorem DB{n:Int}(h:eb n):∃s:ax,s.length<=20/\aL 181 [.d (int n)] [] (.d (.str s)) []:=⟨_,am7 h.1 h.2,aoD h⟩
theorem AW(k n:Int)(t:ax)(c:t.length<=1073741824)(d:eb n):∃s:ax,s.length<=2*t.length+20/\aL 136 [.d (oE k n t)] [] (.d (.str s)) []:=by
 refine eW ?_;obtain⟨b,aj⟩:=acF k n t c;obtain⟨i,g,aC⟩:=DB d;obtain⟨Q,aS,aX⟩:=aoC t c;refine aaV.cn _ λf ae K a=> ?_;refine ak ?_;repeat' (split<;>refine ak ?_)
 .exact a _ _ ⟨[110,117,108,108],az7,rfl,az5⟩
 .exact a _ _ ⟨i,az6,rfl,az5⟩
 .exact a _ _ ⟨Q,az6,rfl,az5⟩
 .exact a _ _ ⟨_,aCu _,rfl,az5⟩
theorem aoE(l:ax)(a:l.length<=1073741824):(∃v,Lib.atoiAll l=.ok v/\aL 168 [.d (.str l)] [] (.tuple [.d (int v),.d .iK]) [])\/
  ∃n,(∀v,Lib.atoiAll l≠.ok v)/\aL 168 [.d (.str l)] [] (.tuple [.d (int n),.d .ix]) []:=by
 cases h:Lib.atoiAll l with
 |ok v=>exact .inl ⟨v,rfl,TM exts.ca exts.a az6 h⟩
 |range=>exact .inr ⟨_,az7,TO exts.ca exts.GF az6 h⟩
 |_=>exact .inr ⟨_,az7,TP exts.ca exts.GF az6 h⟩
theorem acG(l:ax)(c:l.length<=16384):(∃v:Int,eb v/\aL 168 [.d (.str l)] [] (.tuple [.d (int v),.d .iK]) [])\/∃v:Int,aL 168 [.d (.str l)] [] (.tuple [.d (int v),.d .ix]) []:=by
 rcases aoE l az6 with⟨v,h,a⟩|⟨v,h,a⟩
 .exact .inl ⟨v,Lib.atoiAll_bounds h,a⟩
 .exact .inr ⟨v,a⟩
theorem aoF(s:ax)(o:s.length<=16384):∃(k v:Int) (t:ax) (e:Int),t.length<=s.length/\aL 170 [.d (.str s)] [] (.tuple [.d (oE k v t),.d (int e)]) []:=by
 suffices h:∃r j,(∃(k v:Int) (t:ax) (e:Int),t.length<=s.length/\r=.tuple [.d (oE k v t),.d (int e)]/\j=[])/\aL 170 [.d (.str s)] [] r j by
  obtain⟨_,_,⟨k,v,t,e,h1,rfl,rfl⟩,h⟩:=h;exact⟨k,v,t,e,h1,h⟩
 refine Xe.cn _ λa ae K f=> ?_;obtain⟨n,aq⟩:∃n,n=s.length:=⟨_,rfl⟩;have t0:a.dK s=n:=aAI;have C:=M0;have d:∀(k v:Int) (t:ax) (st:aY),t.length<=s.length->st=[]->K (.tuple [.d (oE k v t),.d (int 0)]) st:=λk v t st h af=>f _ _ ⟨k,v,t,0,h,rfl,af⟩;have c:∀st:aY,st=[]->K (.tuple [.d (oE 0 0 []),.d (int 20)]) st:=λst af=>f _ _ ⟨0,0,[],20,aCu _,rfl,af⟩;unfold oE at d c;cases cI:a.bm .eql s [110,117,108,108]with
 |true=>
  obtain⟨t1,_,aj⟩:=AW 0 0 [] az' eb.zero;unfold oE at aj;obtain⟨B,fw⟩:∃b,a.bm .neq t1 s=b:=⟨_,rfl⟩;cases B with
  |true=>
   refine ak ?_;all_goals exact c _ az5
  |false=>
   refine ak ?_;all_goals exact d _ _ _ _ (aCu _) az5
 |false=>
  have g:=acG s o;by_cases af:1<n
  .have t1:a.aB .gtr (Int.ofNat n) 1=true:=by simp only[aH ae,aCy,aCA];omega
   obtain⟨m,l⟩:∃m,n=m+1:=⟨n-1,az6⟩;have t2:a.yl 0 n=true:=AT ae (i:=0) az6;have t3:a.yl (Int.ofNat m) n=true:=AT ae az6;have t4:=qx ae l az6;have fw:a.nn 1 (Int.ofNat m) n=true:=AU ae (i:=1) az6 az6;have E:(a.gN s 1 (Int.ofNat m)).length<=s.length:=by subst ae;show((s.drop 1).take (m-1)).length<=_;rw[aDk,aDQ];omega
   obtain⟨w,aS,aj⟩:=aoA (a.gN s 1 (Int.ofNat m)) az6;generalize t7:a.gN s 1 (Int.ofNat m)=u at*;have aC:=MZ w;obtain⟨q,_,aX⟩:=AW 2 0 w az6 eb.zero;obtain⟨B,eY⟩:∃b,a.bm .neq q s=b:=⟨_,rfl⟩;generalize t5:a.wx s 0=c0 at*;generalize t6:a.wx s (Int.ofNat m)=c1 at*;obtain⟨⟨⟨p,A⟩⟩⟩:=c0;obtain⟨⟨⟨bP,z⟩⟩⟩:=c1;cases fa:a.aB .eql (Int.ofNat p) 34<;>cases fG:a.aB .eql (Int.ofNat bP) 34;all_goals unfold oE at*
   case true.true=>
    cases B with
    |true=>
     refine ak ?_;all_goals exact c _ az5
    |false=>
     refine ak ?_;all_goals exact d _ _ _ _ az6 az5
   all_goals
    clear aj aC aX eY;rcases g with⟨v,hv,aj⟩|⟨v,aj⟩
    .have aC:=Hk v;obtain⟨q,_,aX⟩:=AW 1 v [] az' hv;unfold oE at aX;obtain⟨B,eY⟩:∃b,a.bm .neq q s=b:=⟨_,rfl⟩;cases B with
     |true=>
      refine ak ?_;all_goals exact c _ az5
     |false=>
      refine ak ?_;all_goals exact d _ _ _ _ (aCu _) az5
    .refine ak ?_;all_goals exact c _ az5
  .have t1:a.aB .gtr (Int.ofNat n) 1=false:=by simp only[aH ae,aCy,aCE];omega
   rcases g with⟨v,hv,aj⟩|⟨v,aj⟩
   .have aC:=Hk v;obtain⟨q,_,aX⟩:=AW 1 v [] az' hv;unfold oE at aX;obtain⟨B,eY⟩:∃b,a.bm .neq q s=b:=⟨_,rfl⟩;cases B with
    |true=>
     refine ak ?_;all_goals exact c _ az5
    |false=>
     refine ak ?_;all_goals exact d _ _ _ _ (aCu _) az5
   .refine ak ?_;all_goals exact c _ az5
theorem Hl{a:bd}(h:a=bd.bU){s:ax}{i j:Nat}(c:j<=s.length):(a.gN s (Int.ofNat i) (Int.ofNat j)).length=j-i:=by
 subst h;show((s.drop i).take (j-i)).length=_;rw[aDk,aDQ];omega
theorem aoG(a b:ax)(j:a.length<=16384):∃r:Bool,(r=true->b.length<=a.length)/\aL 171 [.d (.str a),.d (.str b)] [] (.d (.bool r)) []:=by
 suffices h:∃r:Bool,(r=true->b.length<=a.length)/\aL 213 [.d (.str a),.d (.str b)] [] (.d (.bool r)) []by
  obtain⟨r,h1,aj⟩:=h;refine⟨r,h1,Ml.ct λc ae Q f=> ?_⟩;refine ak ?_;all_goals (subst ae;exact bS f az5 az5)
 refine eW ?_;refine My.cn _ λc ae K d=> ?_;obtain⟨n,aq⟩:∃n,n=a.length:=⟨_,rfl⟩;obtain⟨m,g⟩:∃m,m=b.length:=⟨_,rfl⟩;have t0:c.dK a=n:=aAI;have t1:c.dK b=m:=by subst ae;exact g.symm
 by_cases h:m<=n
 .have t2:c.aB .geq (Int.ofNat n) (Int.ofNat m)=true:=by subst ae;exact aCI (aFU.2 h)
  have t3:c.nn 0 (Int.ofNat m) n=true:=AU ae (i:=0) (aCu _) h;refine ak ?_;all_goals exact d _ _ ⟨_,λ_=>az6,rfl,az5⟩
 .have t2:c.aB .geq (Int.ofNat n) (Int.ofNat m)=false:=by subst ae;exact aC3 λx=>h (aFU.1 x)
  refine ak ?_;all_goals exact d _ _ ⟨false,(nomatch ·),rfl,az5⟩
def aoH:List ax:=[[33,61],[60,61],[62,61],[46,46],[40],[41],[44],[59],[58],[124],[43],[45],[42],[47],[37],[61],[60],[62]]
def M1(s:ax)(k i:Nat):ag:=lZ [(0,.d (.str s)),(1,.d (int (Int.ofNat k))),(4,.dw 4 0),(19,.d (.agg (aoH.map D.str))),(20,.d (int (Int.ofNat i)))] [(4,[.d (int 0),.d (.str []),.d (int 0),.d (int (Int.ofNat k))])] []
theorem aoI(s:ax)(k:Nat)(l:k<s.length)(z:s.length<=16384):∃(t:Tok) (j e:Int),(e=0->(u1 t/\(t.k=1->t.t≠[]))/\∃m:Nat,j=Int.ofNat m/\k<m/\m<=s.length)/\aL 117 [.d (.str s),.d (int (Int.ofNat k))] [] (.tuple [.d t.d,.d (int j),.d (int e)]) []:=by
 refine G8 ?_;refine aaM.cn _ λd ae K w=> ?_;obtain⟨n,aq⟩:∃n,n=s.length:=⟨_,rfl⟩;have t0:d.dK s=n:=aAI;have t2:=AT ae (show k<n by omega);have t3:=Hj ae l;have g:∀(a:Int) (x:ax) (b e:Int) (st:aY),e≠0->st=[]->K (.tuple [.d (.agg [int a,.str x,int b,int (Int.ofNat k)]),.d (int 0),.d (int e)]) st:=λa x b e st R h=>w _ _ ⟨⟨a,x,b,k⟩,0,e,λh=>absurd h R,rfl,h⟩;have p:∀(a:Int) (x:ax) (b:Int) (m:Nat) (st:aY),x.length<=16384->eb b->(a=1->x≠[])->k<m->m<=s.length->st=[]->K (.tuple [.d (.agg [int a,.str x,int b,int (Int.ofNat k)]),.d (int (Int.ofNat m)),.d (int 0)]) st:=λa x b m st h1 af av L N h=>w _ _ ⟨⟨a,x,b,k⟩,Int.ofNat m,0,λ_=>⟨⟨⟨h1,af⟩,av⟩,m,rfl,L,N⟩,rfl,h⟩;clear w;obtain⟨b7,⟨g1,g2,g3⟩,aj⟩:=MW s k _ Dz aou az6 z;obtain⟨cq,⟨f1,f2,f3⟩,aC⟩:=MW s k _ Hh acC az6 z;have aX:=aot s[k];have X:=acC s[k];have g3:=g3 l;have f3:=f3 l;have g0:Hg s[k]=true->Dz s[k]=true:=λh=>by unfold Dz;rw[h];rfl
 generalize s[k]=c at*;generalize Hg c=bq at*;generalize Hh c=aT at*;generalize Dz c=b3 at*;obtain⟨⟨⟨F,Y⟩⟩⟩:=c;unfold fO at*;cases bq with
 |true=>
  have f:=g3 (g0 rfl);obtain⟨B,fw⟩:∃b,d.aB .gtr (d.io .sub .i64 (Int.ofNat b7) (Int.ofNat k)) 16=b:=⟨_,rfl⟩;cases B with
  |true=>
   refine ak ?_;all_goals exact g _ _ _ _ _ az' az5
  |false=>
   have eY:=AU ae g1 (show b7<=n by omega);have o:=Hl ae (s:=s) (i:=k) g2;generalize t7:d.gN s (Int.ofNat k) (Int.ofNat b7)=u at*;have H:u≠[]:=λh=>by rw[h,aDm]at o;omega
   refine ak ?_;all_goals exact p _ _ _ _ _ az6 eb.zero (λ_=>H) f g2 az5
 |false=>
 cases aT with
 |true=>
  have f:=f3 rfl;have eY:=AU ae f1 (show cq<=n by omega);have o:=Hl ae (s:=s) (i:=k) f2;have t6:=b9 ae (n:=k) az6;generalize t7:d.gN s (Int.ofNat k) (Int.ofNat cq)=u at*;have Q:=acG u az6;obtain⟨B,fa⟩:∃b,d.aB .eql (Int.ofNat F) 48=b:=⟨_,rfl⟩;obtain⟨C,fG⟩:∃b,d.aB .gtr (Int.ofNat cq) (Int.ofNat (k+1))=b:=⟨_,rfl⟩;cases B<;>cases C;case true.true=>
   refine ak ?_;all_goals exact g _ _ _ _ _ az' az5
  all_goals
   rcases Q with⟨v,hv,aj⟩|⟨v,aj⟩
   .refine ak ?_;all_goals exact p _ _ _ _ _ (aCu _) hv (λh=>aAb) f f2 az5
   .refine ak ?_;all_goals exact g _ _ _ _ _ az' az5
 |false=>
 cases fw:d.aB .eql (Int.ofNat F) 34 with
 |true=>
  clear aj aC;obtain⟨r,h,aj⟩:=aoz s k l z;rcases h with rfl|⟨j,rfl,U,A⟩
  .have eY:d.aB .lss (-1) 0=true:=by subst ae;rfl
   refine ak ?_;all_goals exact g _ _ _ _ _ az' az5
  .have eY:d.aB .lss (Int.ofNat j) 0=false:=by subst ae;exact aC3 (Int.not_lt.2 (aEf j))
   have fa:=AU ae (show k<=j by omega) (show j<=n by omega);have o:=Hl ae (s:=s) (i:=k) A;generalize t7:d.gN s (Int.ofNat k) (Int.ofNat j)=u at*;obtain⟨a,v,t,e,V,aC⟩:=aoF u az6;unfold oE at aC;cases fG:d.aB .neq e 0 with
   |true=>
    refine ak ?_;all_goals exact g _ _ _ _ _ az' az5
   |false=>
    refine ak ?_;all_goals exact p _ _ _ _ _ az6 eb.zero (λh=>aAb) az6 A az5
 |false=>
 clear aj aC;have eY:=AU ae (show k<=n by omega) (aCw n);have o:=Hl ae (s:=s) (i:=k) (j:=n) az6;generalize t7:d.gN s (Int.ofNat k) (Int.ofNat n)=u at*;have P:=λx=>aoG u x az6;have M:∀(x:ax) (st:aY),x.length<=u.length->1<=x.length->st=[]->K (.tuple [.d (.agg [int 4,.str x,int 0,int (Int.ofNat k)]),.d (int (d.io .add .i64 (Int.ofNat k) (Int.ofNat (d.dK x)))),.d (int 0)]) st:=λx st h1 af h=>by
  have av:d.io .add .i64 (Int.ofNat k) (Int.ofNat (d.dK x))=Int.ofNat (k+x.length):=by
   rw[show d.dK x=x.length by subst ae;rfl];exact mE ae aAo aAo
  rw[av];exact p _ _ _ _ _ az6 eb.zero (λh=>aAb) az6 az6 h
 refine ak ?_;refine⟨bX (λi:Nat=>M1 s k i) (λi=>i<=18) (λi=>18-i),_,⟨0,aCu _,rfl,az5⟩,?_⟩;rintro _ _ ⟨i,G,rfl,rfl⟩;dsimp only at G⊢;by_cases f:i<18
 .have t1:d.aB .lss (Int.ofNat i) 18=true:=ek ae (b:=18) f;have t6:=b9 ae (n:=i) az6;have E:=λst (h:st=M1 s k (i+1))=>fixF (S:=λi:Nat=>M1 s k i) (J:=λi=>i<=18) (μ:=λi=>18-i) (n:=18-i) (st:=st) (i+1) f h;clear G;rcases i with _|_|_|_|_|_|_|_|_|_|_|_|_|_|_|_|_|_|i
  rotate_left 18
  .omega
  all_goals
   simp only[aDl,Nat.reduceAdd]at t1 t6 E⊢;refine ak ?_;refine aC1 (P _) λb au=>⟨_,_,au.2,?_⟩;cases b with
   |true=>
    refine ak ?_;all_goals exact M _ _ (au.1 rfl) az' az5
   |false=>
    refine ak ?_;all_goals exact E _ az5
 .obtain rfl:i=18:=by omega
  have t1:d.aB .lss (Int.ofNat 18) 18=false:=en ae (b:=18) (aEW 18);refine ak ?_;all_goals exact g _ _ _ _ _ az' az5
def DC(l:List Tok):Prop:=∀t∈l,u1 t/\(t.k=1->t.t≠[])
theorem DC.app{l:List Tok}{t:Tok}(h:DC l)(g:u1 t/\(t.k=1->t.t≠[])):DC (l++[t]):=λx a=>by
 rcases aC9.1 a with h1|h1
 .exact h x h1
 .cases aCS.1 h1;exact g
def aoK(s:ax)(R:List D)(p:Nat):ag:=cA [(0,.d (.str s)),(2,.own 4 R),(3,.d (int (Int.ofNat p)))] []
theorem DE(s:ax):∃x:List Tok×Nat×Int,(DC x.1/\x.1.length<=16384)/\aL 88 [.d (.str s)] [] (.tuple [.d (pw x.1),.d (int (Int.ofNat x.2.1)),.d (int x.2.2)]) []:=by
 refine eW ?_;refine UH.cn _ λc ae K g=> ?_;obtain⟨n,aq⟩:∃n,n=s.length:=⟨_,rfl⟩;have t0:c.dK s=n:=aAI;have o:∀(p:Nat) (e:Int) (st:aY),st=[]->K (.tuple [.d (.list 4 []),.d (int (Int.ofNat p)),.d (int e)]) st:=λp e st h=>g _ _ ⟨([],p,e),⟨λ_ h=>(aC5 h).elim,aCu _⟩,rfl,h⟩;by_cases h:16384<n
 .have t1:c.aB .gtr (Int.ofNat n) 16384=true:=by subst ae;exact aCI (aDN.2 h)
  refine ak ?_;all_goals exact o 0 31 _ az5
 .have t1:c.aB .gtr (Int.ofNat n) 16384=false:=by subst ae;exact aC3 λx=>h (aDN.1 x)
  obtain⟨r,⟨_,t⟩,aj⟩:=acD s 0 (aCu _) az6;refine ak ?_;refine⟨bX (λz:List D×Nat=>aoK s z.1 z.2) (λz=>z.2<=n/\∃l,z.1=l.map Tok.d/\DC l/\l.length<=z.2) (λz=>n-z.2),_,⟨([],r),⟨az6,[],rfl,λ_ h=>(aC5 h).elim,aCu _⟩,rfl,az5⟩,?_⟩;clear aj t1 t;rintro _ _ ⟨⟨R,p⟩,⟨hp,l,bK,f,E⟩,rfl,rfl⟩;dsimp only at hp bK⊢;have B:R.length<=16384:=aAX;by_cases k:p<n
  .have t1:=ek ae k;obtain⟨⟨a,x,b,q⟩,j,e,u,aj⟩:=aoI s p az6 az6;have A:c.app R [.agg [int a,.str x,int b,int (Int.ofNat q)]]=(l++[(⟨a,x,b,q⟩:Tok)]).map Tok.d:=by subst ae;rw[bK,aCR];rfl
   by_cases d:e=0
   .obtain⟨w,m,rfl,h1,af⟩:=u d;have t2:c.aB .neq e 0=false:=by subst ae;rw[d];rfl
    obtain⟨r,⟨C,v⟩,aC⟩:=acD s m af az6;unfold Tok.d at*;refine ak ?_;have av:(l++[(⟨a,x,b,q⟩:Tok)]).length<=r:=by rw[aCF];show l.length+1<=r;omega
    all_goals exact fixF (_,r) ⟨aq▸v,_,A,f.app w,av⟩
   .have t2:c.aB .neq e 0=true:=by subst ae;show(!decide (e=0))=true;rw[aC3 d];rfl
    unfold Tok.d at*;refine ak ?_;all_goals exact o _ _ _ az5
  .have t1:=en ae k;refine ak ?_;all_goals exact g _ _ ⟨(l,p,0),⟨f,by show l.length<=_;omega⟩,by rw[bK];rfl,az5⟩
noncomputable def qy(s:ax):List Tok×Nat×Int:=Classical.choose (DE s)
theorem M4(s:ax):(∀t∈(qy s).1,u1 t)/\(qy s).1.length<=16384:=⟨λt h=>((aEv (DE s)).1.1 t h).1,(aEv (DE s)).1.2⟩
theorem aoM(s:ax):∀t∈(qy s).1,t.k=1->t.t≠[]:=λt h=>((aEv (DE s)).1.1 t h).2
def aoN(x:List Tok×Nat×Int):ah:=.tuple [.d (pw x.1),.d (int x.2.1),.d (int x.2.2)]
theorem aoO(s:ax):aL 88 [.d (.str s)] [] (aoN (qy s)) []:=(aEv (DE s)).2
end Go.Proofs.YthffhbakgmemaaaGreatDoor
