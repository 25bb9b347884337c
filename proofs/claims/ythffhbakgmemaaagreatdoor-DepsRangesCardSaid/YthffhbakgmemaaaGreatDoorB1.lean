/- Part of ranges_said. -/
import Derived.Test.YthffhbakgmemaaaGreatDoorD
set_option maxRecDepth 100000
set_option maxHeartbeats 8000000
set_option linter.unusedSimpArgs false
set_option linter.unusedVariables false
namespace Go.Proofs.YthffhbakgmemaaaGreatDoor
open Go Go.aH
attribute [local irreducible] bG
abbrev aw:=List UInt8
abbrev int(n:Int):D:=.int .i64 n
def z8(c:UInt8):Bool:=decide (97<=c.toNat)&&decide (c.toNat<=122)
def jg(c:UInt8):Bool:=decide (48<=c.toNat)&&decide (c.toNat<=57)
def k8(c:UInt8):Bool:=z8 c||jg c||decide (c.toNat=95)
def nG(c:UInt8):Bool:=!decide (c.toNat=10)
theorem Gi:gX a1 gl (oe ext tab gl 1000 60):=pT LH p4 60
theorem ana(c:UInt8):aM 165 [.d (gk c)] [] (.d (.bool (z8 c))) []:=FQ Gi axV c
theorem abf(c:UInt8):aM 167 [.d (gk c)] [] (.d (.bool (jg c))) []:=FQ Gi axV c
theorem anb(c:UInt8):aM 166 [.d (gk c)] [] (.d (.bool (k8 c))) []:=FQ Gi axV c
theorem anc(c:UInt8):aM 164 [.d (gk c)] [] (.d (.bool (nG c))) []:=FQ Gi axV c
def ez(p:UInt8->Bool):aw->Nat
 |[]=>0
 |c::l=>cond (p c) (ez p l+1) 0
theorem Aa(p:UInt8->Bool):∀l:aw,ez p l<=l.length
 |[]=>aAd _
 |c::l=>by
  simp only[ez,aAu];cases p c with
  |true=>simp_all[Aa]
  |false=>simp
theorem abg{p:UInt8->Bool}{s:aw}{i:Nat}(h:i<s.length):ez p (s.drop i)=cond (p s[i]) (ez p (s.drop (i+1))+1) 0:=by
 rw[aBg h];rfl
theorem nH{i:Nat}(h:i<4611686018427387904):IntKind.i64.wrap ((i:Int)+1)=((i+1:Nat):Int):=ay8
theorem getD_at{s:aw}{i:Nat}(h:i<s.length):s.getD (Int.toNat (i:Int)) 0=s[i]:=axY
section
attribute [local irreducible] Int.decLt Int.decLe Int.instDecidableEq IntKind.wrap instDecidableEqList
def abh(s:aw)(g:Nat)(i:Int):ag:=cx [(0,.d (.str s)),(1,.d (int i)),(2,.d (.fn g))] []
theorem LZ(s:aw)(k:Nat)(g:Nat)(p:UInt8->Bool)(aC:∀c,aM g [.d (gk c)] [] (.d (.bool (p c))) [])(aq:k<=s.length)(hs:s.length<=1073741824):
  aM 163 [.d (.str s),.d (int k),.d (.fn g)] [] (.d (int ((k+ez p (s.drop k):Nat):Int))) []:=by
 refine p3.fh ?_;conv=>whnf
 refine⟨axV,?_⟩;refine⟨λn st=>∃i:Nat,i<=s.length/\n=s.length-i/\i+ez p (s.drop i)=k+ez p (s.drop k)/\st=abh s g i,s.length-k,⟨k,aq,rfl,rfl,axV⟩,?_⟩;rintro _ _ ⟨i,hi,rfl,ax,rfl⟩;refine bj ?_;first|refine eK (λh=> ?_) (λh=> ?_)|((refine eE (λh=> ?_) (λh=> ?_))<;>(try simp only[aAg]at h))
 .have cG:i<s.length:=by simp_all
  conv=>whnf
  repeat ((first|refine e7 ?_|refine e6 ?_);conv=>whnf)
  refine⟨axY,?_⟩;rw[getD_at cG];refine bj ?_;refine⟨_,_,aC s[i],?_⟩;refine bj ?_;first|refine eK (λsh=> ?_) (λsh=> ?_)|((refine eE (λsh=> ?_) (λsh=> ?_))<;>(try simp only[aAg]at sh))
  .refine bj ?_;have av:ez p (s.drop i)=ez p (s.drop (i+1))+1:=by grind[abg]
   exact⟨s.length-(i+1),axW,i+1,axW,rfl,axW,congrArg (abh s g) (nH axW)⟩
  .refine bj ?_;have av:ez p (s.drop i)=0:=by grind[abg]
   refine⟨congrArg (λn:Nat=>ah.d (int (n:Int))) (show i=k+ez p (s.drop k)by omega),axV⟩
 .refine bj ?_;have cG:¬i<s.length:=axY;have av:ez p (s.drop i)=0:=by rw[aBr axW];rfl
  refine⟨congrArg (λn:Nat=>ah.d (int (n:Int))) (show i=k+ez p (s.drop k)by omega),axV⟩
end
def um(c:UInt8):Bool:=decide ((c.toNat:Int)=32)||decide ((c.toNat:Int)=9)||decide ((c.toNat:Int)=10)
def eB:Bool->aw->Nat
 |_,[]=>0
 |true,c::l=>cond (nG c) (eB true l+1) (eB false l+1)
 |false,c::l=>cond (um c) (eB false l+1) (cond (decide ((c.toNat:Int)=35)) (eB true l+1) 0)
theorem Ab:∀(b:Bool) (l:aw),eB b l<=l.length
 |b,[]=>by cases b<;>exact aAd _
 |true,c::l=>by
  have h1:=Ab true l;have sh:=Ab false l;simp only[eB,aAu];grind
 |false,c::l=>by
  have h1:=Ab true l;have sh:=Ab false l;simp only[eB,aAu];grind
theorem abj:∀l:aw,eB true l=ez nG l+eB false (l.drop (ez nG l))
 |[]=>rfl
 |c::l=>by
  simp only[eB,ez];cases az:nG c with
  |true=>
   simp only[aAg,aCx];rw[abj l];omega
  |false=>
   simp_all[eB,um,nG]
theorem ane{c:UInt8}{l:aw}(h:um c=false)(sh:(c.toNat:Int)=35):eB false (c::l)=ez nG (c::l)+eB false ((c::l).drop (ez nG (c::l)))/\1<=ez nG (c::l):=by
 have ay:nG c=true:=by
  grind[nG]
 simp only[eB,h,sh,decide_true,aAg,aAw,ez,ay,aCx];grind[abj]
section
attribute [local irreducible] Int.decLt Int.decLe Int.instDecidableEq IntKind.wrap instDecidableEqList
def Gj(s:aw)(i:Int):ag:=cx [(0,.d (.str s)),(1,.d (int i))] []
theorem abk(s:aw)(k:Nat)(aq:k<=s.length)(hs:s.length<=1073741824):aM 116 [.d (.str s),.d (int k)] [] (.d (int ((k+eB false (s.drop k):Nat):Int))) []:=by
 refine Xz.fh ?_;conv=>whnf
 refine⟨axV,?_⟩;refine⟨λn st=>∃i:Nat,i<=s.length/\n=s.length-i/\i+eB false (s.drop i)=k+eB false (s.drop k)/\st=Gj s i,s.length-k,⟨k,aq,rfl,rfl,axV⟩,?_⟩;rintro _ _ ⟨i,hi,rfl,ax,rfl⟩;refine bj ?_;first|refine eK (λh=> ?_) (λh=> ?_)|((refine eE (λh=> ?_) (λh=> ?_))<;>(try simp only[aAg]at h))
 .have cG:i<s.length:=by simp_all
  have aY:=aBg cG;conv=>whnf
  repeat ((first|refine e7 ?_|refine e6 ?_);conv=>whnf)
  refine⟨axZ,?_⟩;rw[getD_at cG];have step1:um s[i]=true->∃m,m<s.length-i/\∃j:Nat,j<=s.length/\m=s.length-j/\j+eB false (s.drop j)=k+eB false (s.drop k)/\Gj s (IntKind.i64.wrap ((i:Int)+1))=Gj s j:=by
   intro au;have:eB false (s.drop i)=eB false (s.drop (i+1))+1:=by rw[aY];simp only[eB,au,aAg]
   exact⟨s.length-(i+1),axW,i+1,axW,rfl,axW,congrArg (Gj s) (nH axW)⟩
  refine bj ?_;first|refine eK (λh1=> ?_) (λh1=> ?_)|((refine eE (λh1=> ?_) (λh1=> ?_))<;>(try simp only[aAg]at h1))
  .refine bj ?_;exact step1 (by grind[um])
  .refine bj ?_;first|refine eK (λsh=> ?_) (λsh=> ?_)|((refine eE (λsh=> ?_) (λsh=> ?_))<;>(try simp only[aAg]at sh))
   .refine bj ?_;exact step1 (by grind[um])
   .refine bj ?_;first|refine eK (λav=> ?_) (λav=> ?_)|((refine eE (λav=> ?_) (λav=> ?_))<;>(try simp only[aAg]at av))
    .refine bj ?_;exact step1 (by grind[um])
    .have au:um s[i]=false:=by grind[um]
     refine bj ?_;first|refine eK (λaW=> ?_) (λaW=> ?_)|((refine eE (λaW=> ?_) (λaW=> ?_))<;>(try simp only[aAg]at aW))
     .refine bj ?_;have az:=LZ s i 164 nG anc hi hs;refine⟨_,_,az,?_⟩;refine bj ?_;have L1:((s[i]).toNat:Int)=35:=of_decide_eq_true aW;have aC:=ane (l:=s.drop (i+1)) au L1;rw[<-aY,aCt]at aC;have hle:=Aa nG (s.drop i);rw[aBZ]at hle;exact⟨s.length-(i+ez nG (s.drop i)),axW,i+ez nG (s.drop i),axW,rfl,axW,axV⟩
     .refine bj ?_;have:eB false (s.drop i)=0:=by rw[aY];simp only[eB,au,aW,aAw]
      refine⟨congrArg (λn:Nat=>ah.d (int (n:Int))) (show i=k+eB false (s.drop k)by omega),axV⟩
 .refine bj ?_;have cG:¬i<s.length:=axY;have:eB false (s.drop i)=0:=by rw[aBr axW];rfl
  refine⟨congrArg (λn:Nat=>ah.d (int (n:Int))) (show i=k+eB false (s.drop k)by omega),axV⟩
end
def k9:aw->Option Nat
 |[]=>none
 |c::l=>cond (decide ((c.toNat:Int)=92)) (match l with
   |[]=>none
   |_::bC=>(k9 bC).map (·+2))
  (cond (decide ((c.toNat:Int)=34)) (some 1) ((k9 l).map (·+1)))
theorem Gk:∀(n:Nat) (l:aw),l.length<=n->∀m,k9 l=some m->1<=m/\m<=l.length:=by
 intro n;induction n with
 |zero=>
  grind[k9]
 |succ n ih=>
  intro l aI m h;cases l with
  |nil=>grind
  |cons c l=>
   unfold k9 at h;cases h1:decide ((c.toNat:Int)=92)with
   |true=>
    rw[h1]at h;simp only[aAg]at h;grind[Option.map_eq_some_iff]
   |false=>
    rw[h1]at h;simp only[aAw]at h;cases sh:decide ((c.toNat:Int)=34)with
    |true=>simp_all
    |false=>
     rw[sh]at h;simp only[aAw,aA0]at h;grind
def vN(k:Nat):Option Nat->Int
 |some n=>((k+n:Nat):Int)
 |none=> -1
theorem abl(k m:Nat)(o:Option Nat):vN k (o.map (·+m))=vN (k+m) o:=by
 cases o with
 |none=>rfl
 |some n=>grind[vN]
section
attribute [local irreducible] Int.decLt Int.decLe Int.instDecidableEq IntKind.wrap instDecidableEqList
def Gl(s:aw)(i:Int):ag:=cx [(0,.d (.str s)),(5,.d (int i))] []
theorem anf(s:aw)(k:Nat)(aq:k<s.length)(hs:s.length<=1073741824):aM 169 [.d (.str s),.d (int k)] [] (.d (int (vN (k+1) (k9 (s.drop (k+1)))))) []:=by
 refine ZK.fh ?_;refine bj ?_;refine⟨λn st=>∃i:Nat,i<=s.length+1/\n=s.length+1-i/\vN i (k9 (s.drop i))=vN (k+1) (k9 (s.drop (k+1)))/\st=Gl s i,s.length-k,⟨k+1,axW,axW,rfl,congrArg (Gl s) (nH axW)⟩,?_⟩;rintro _ _ ⟨i,hi,rfl,ax,rfl⟩;refine bj ?_;first|refine eK (λh=> ?_) (λh=> ?_)|((refine eE (λh=> ?_) (λh=> ?_))<;>(try simp only[aAg]at h))
 .have cG:i<s.length:=by simp_all
  have aY:=aBg cG;conv=>whnf
  repeat ((first|refine e7 ?_|refine e6 ?_);conv=>whnf)
  refine⟨axZ,?_⟩;rw[getD_at cG];refine bj ?_;first|refine eK (λh1=> ?_) (λh1=> ?_)|((refine eE (λh1=> ?_) (λh1=> ?_))<;>(try simp only[aAg]at h1))
  .refine bj ?_;refine⟨s.length+1-(i+2),axW,i+2,axW,rfl,?_,?_⟩
   .rw[<-ax,aY];conv=>rhs;unfold k9
    rw[h1];simp only[aAg];by_cases sh:i+1<s.length
    .rw[aBg sh];simp only;rw[abl]
    .rw[aBr axW,aBr axW];rfl
   .exact congrArg (Gl s) ((congrArg (λn=>IntKind.i64.wrap (n+1)) (nH (show i<4611686018427387904 by omega))).trans (nH (show i+1<4611686018427387904 by omega)))
  .refine bj ?_;first|refine eK (λsh=> ?_) (λsh=> ?_)|((refine eE (λsh=> ?_) (λsh=> ?_))<;>(try simp only[aAg]at sh))
   .refine bj ?_;refine⟨?_,axV⟩;refine aAf (congrArg (λn=>ah.d (int n)) (nH (show i<4611686018427387904 by omega))) (congrArg (λn=>ah.d (int n)) ?_);rw[<-ax,aY];unfold k9;rw[h1,sh];rfl
   .refine bj ?_;refine⟨s.length+1-(i+1),axW,i+1,axW,rfl,?_,congrArg (Gl s) (nH axW)⟩;rw[<-ax,aY];conv=>rhs;unfold k9
    rw[h1,sh];simp only[aAw];rw[abl]
 .refine bj ?_;have cG:¬i<s.length:=axY;refine⟨congrArg (λn=>ah.d (int n)) ?_,axV⟩;rw[<-ax,aBr axW];rfl
end
theorem L2:∀l:aw,oD (l.map gk)=some l
 |[]=>rfl
 |c::t=>by
  show(match oD (t.map gk)with|some s=>some (UInt8.ofNat (Int.toNat (c.toNat:Int))::s)|none=>none)=_;rw[L2 t];simp
theorem getD_map{α:Type}{f:α->D}{d:D}{l:List α}{i:Nat}(h:i<l.length):(l.map f).getD (Int.toNat (i:Int)) d=f l[i]:=axY
def lE:Bool->aw->aw
 |_,[]=>[]
 |e,c::l=>cond (decide ((c.toNat:Int)=92)&&!e) (lE true l) (c::lE false l)
def mg:aw->aw
 |[]=>[]
 |c::l=>cond (decide ((c.toNat:Int)=34)||decide ((c.toNat:Int)=92)) (92::c::mg l) (c::mg l)
theorem abm:∀l:aw,(mg l).length<=2*l.length
 |[]=>aAd _
 |c::l=>by
  have:=abm l;simp only[mg];grind
def sF(c:UInt8):Bool:=!(decide ((c.toNat:Int)<32)||decide ((126:Int)<c.toNat))
def xT(s:aw):Bool:=s.all sF&&decide ((s.length:Int)<=64)
section
attribute [local irreducible] Int.decLt Int.decLe Int.instDecidableEq IntKind.wrap instDecidableEqList
def bl(s:aw):D:=.list 1 (s.map gk)
def xU(s o:aw)(e:Bool)(n i:Int):ag:=cx [(3,.own 1 (o.map gk)),(4,.d (.bool e)),(8,.d (bl s)),(9,.d (int n)),(10,.d (int i))] []
theorem ang(s:aw)(hs:s.length<=1073741824):aM 211 [.d (.str s)] [] (.d (.str (lE false s))) []:=by
 refine Wp.fh ?_;refine bj ?_;refine⟨λn st=>∃(i:Nat) (o:aw) (e:Bool),i<=s.length/\n=s.length-i/\o.length<=i/\o++lE e (s.drop i)=lE false s/\st=xU s o e s.length i,s.length,⟨0,[],false,axW,rfl,aAd _,rfl,?_⟩,?_⟩
 .exact congrArg (λk=>xU s [] false k 0) axX
 rintro _ _ ⟨i,o,e,hi,rfl,bd,ax,rfl⟩;refine bj ?_;first|refine eK (λh=> ?_) (λh=> ?_)|((refine eE (λh=> ?_) (λh=> ?_))<;>(try simp only[aAg]at h))
 .have cG:i<s.length:=by simp_all
  have aY:=aBg cG;conv=>whnf
  repeat ((first|refine e7 ?_|refine e6 ?_);conv=>whnf)
  refine⟨ax7,?_⟩;rw[getD_map cG];refine bj ?_;first|refine eK (λh1=> ?_) (λh1=> ?_)|((refine eE (λh1=> ?_) (λh1=> ?_))<;>(try simp only[aAg]at h1))
  .refine bj ?_;cases e with
   |true=>
    conv=>whnf
    repeat ((first|refine e7 ?_|refine e6 ?_);conv=>whnf)
    refine⟨ax7,?_⟩;refine bj ?_;refine⟨s.length-(i+1),axW,i+1,o++[s[i]],false,axW,rfl,axY,?_,?_⟩
    .grind[lE]
    .refine aAf ?_ (congrArg (xU s (o++[s[i]]) false s.length) (nH (show i<4611686018427387904 by omega)));unfold xU;rw[aAy];rfl
   |false=>
    refine bj ?_;refine⟨s.length-(i+1),axW,i+1,o,true,axW,rfl,axW,?_,congrArg (xU s o true s.length) (nH axW)⟩;rw[<-ax,aY];simp_all[lE]
  .conv=>whnf
   repeat ((first|refine e7 ?_|refine e6 ?_);conv=>whnf)
   refine⟨ax7,?_⟩;refine bj ?_;refine⟨s.length-(i+1),axW,i+1,o++[s[i]],false,axW,rfl,axZ,?_,?_⟩
   .rw[<-ax,aY];simp only[lE,h1,aC',aAw,aBj,List.singleton_append]
   .refine aAf ?_ (congrArg (xU s (o++[s[i]]) false s.length) (nH (show i<4611686018427387904 by omega)));unfold xU;rw[aAy];rfl
 .conv=>whnf
  repeat ((first|refine e7 ?_|refine e6 ?_);conv=>whnf)
  have cG:¬i<s.length:=axY;have kZ:o=lE false s:=by grind[lE]
  simp only[L2];refine bj ?_;exact⟨by rw[<-kZ];rfl,axV⟩
theorem L3(s:aw):aM 135 [.d (.str s)] [] (.d (.agg [int 2,int 0,.str s])) []:=by
 refine VX.fh ?_;refine bj ?_;exact⟨axV,axV⟩
theorem L4:aM 210 [] [] (.d (.agg [int 0,int 0,.str []])) []:=by
 refine Wn.fh ?_;refine bj ?_;exact⟨axV,axV⟩
theorem abn(n:Int):aM 212 [.d (int n)] [] (.d (.agg [int 1,int n,.str []])) []:=by
 refine al1.fh ?_;refine bj ?_;exact⟨axV,axV⟩
def L5(s:aw)(n i:Int):ag:=cx [(0,.d (.str s)),(6,.d (bl s)),(7,.d (int n)),(8,.d (int i))] []
theorem abo(s:aw)(hs:s.length<=1073741824):aM 229 [.d (.str s)] [] (.d (.bool (xT s))) []:=by
 refine aE2.fh ?_;refine bj ?_;refine⟨λn st=>∃i:Nat,i<=s.length/\n=s.length-i/\(s.drop i).all sF=s.all sF/\st=L5 s s.length i,s.length,⟨0,axW,rfl,rfl,congrArg (λk=>L5 s k 0) axX⟩,?_⟩;rintro _ _ ⟨i,hi,rfl,ax,rfl⟩;refine bj ?_;first|refine eK (λh=> ?_) (λh=> ?_)|((refine eE (λh=> ?_) (λh=> ?_))<;>(try simp only[aAg]at h))
 .have cG:i<s.length:=by simp_all
  have aY:=aBg cG;conv=>whnf
  repeat ((first|refine e7 ?_|refine e6 ?_);conv=>whnf)
  refine⟨ax7,?_⟩;rw[getD_map cG];refine bj ?_;have no:sF s[i]=false->ah.d (D.bool false)=ah.d (D.bool (xT s)):=by
   grind[xT]
  have yes:sF s[i]=true->(s.drop (i+1)).all sF=s.all sF:=axZ;first|refine eK (λh1=> ?_) (λh1=> ?_)|((refine eE (λh1=> ?_) (λh1=> ?_))<;>(try simp only[aAg]at h1))
  .refine bj ?_;exact⟨no (by grind[sF]),axV⟩
  .refine bj ?_;first|refine eK (λsh=> ?_) (λsh=> ?_)|((refine eE (λsh=> ?_) (λsh=> ?_))<;>(try simp only[aAg]at sh))
   .refine bj ?_;exact⟨no (by grind[sF]),axV⟩
   .refine bj ?_;exact⟨s.length-(i+1),axW,i+1,axW,rfl,yes (by grind[sF]),congrArg (L5 s s.length) (nH axW)⟩
 .refine bj ?_;have cG:¬i<s.length:=axY;rw[aBr axW]at ax;refine⟨?_,axV⟩;unfold xT;rw[<-ax];rfl
def Ac(s o:aw)(n i:Int):ag:=cx [(3,.own 1 (o.map gk)),(8,.d (bl s)),(9,.d (int n)),(10,.d (int i))] []
theorem abp(s:aw)(hs:s.length<=1073741824):aM 184 [.d (.str s)] [] (.d (.str (34::(mg s++[34])))) []:=by
 refine aEU.fh ?_;refine bj ?_;refine⟨λn st=>∃(i:Nat) (o:aw),i<=s.length/\n=s.length-i/\o.length<=2*i+1/\o++mg (s.drop i)=34::mg s/\st=Ac s o s.length i,s.length,⟨0,[34],axW,rfl,aAd _,rfl,congrArg (λk=>Ac s [34] k 0) axX⟩,?_⟩;rintro _ _ ⟨i,o,hi,rfl,bd,ax,rfl⟩;have app:∀(a b:aw),cx [(3,.own 1 ((o++a).map gk++b.map gk)),(8,.d (bl s)),(9,.d (int s.length)),(10,.d (int ((i+1:Nat):Int)))] []=Ac s (o++a++b) s.length ((i+1:Nat):Int):=by
  grind[Ac]
 refine bj ?_;first|refine eK (λh=> ?_) (λh=> ?_)|((refine eE (λh=> ?_) (λh=> ?_))<;>(try simp only[aAg]at h))
 .have cG:i<s.length:=by simp_all
  have aY:=aBg cG;conv=>whnf
  repeat ((first|refine e7 ?_|refine e6 ?_);conv=>whnf)
  refine⟨ax7,?_⟩;rw[getD_map cG];refine bj ?_;have abq:(decide (((s[i]).toNat:Int)=34)||decide (((s[i]).toNat:Int)=92))=true->(o++[92]++[s[i]])++mg (s.drop (i+1))=34::mg s:=by
   intro aS;rw[<-ax,aY];simp only[mg,aS,aAg,aBj,aBJ,aBn]
  first|refine eK (λh1=> ?_) (λh1=> ?_)|((refine eE (λh1=> ?_) (λh1=> ?_))<;>(try simp only[aAg]at h1))
  .conv=>whnf
   repeat ((first|refine e7 ?_|refine e6 ?_);conv=>whnf)
   refine⟨ax7,?_⟩;conv=>whnf
   repeat ((first|refine e7 ?_|refine e6 ?_);conv=>whnf)
   refine⟨ax7,?_⟩;refine bj ?_;refine⟨s.length-(i+1),axW,i+1,o++[92]++[s[i]],axW,rfl,axZ,abq axZ,?_⟩;refine aAf ?_ (aAf (congrArg (λk=>cx [(3,.own 1 ((o++[92]).map gk++[s[i]].map gk)),(8,.d (bl s)),(9,.d (int s.length)),(10,.d (int k))] []) (nH (show i<4611686018427387904 by omega))) (app [92] [s[i]]));rw[aAy];rfl
  .refine bj ?_;first|refine eK (λsh=> ?_) (λsh=> ?_)|((refine eE (λsh=> ?_) (λsh=> ?_))<;>(try simp only[aAg]at sh))
   .conv=>whnf
    repeat ((first|refine e7 ?_|refine e6 ?_);conv=>whnf)
    refine⟨ax7,?_⟩;conv=>whnf
    repeat ((first|refine e7 ?_|refine e6 ?_);conv=>whnf)
    refine⟨ax7,?_⟩;refine bj ?_;refine⟨s.length-(i+1),axW,i+1,o++[92]++[s[i]],axW,rfl,axZ,abq axZ,?_⟩;refine aAf ?_ (aAf (congrArg (λk=>cx [(3,.own 1 ((o++[92]).map gk++[s[i]].map gk)),(8,.d (bl s)),(9,.d (int s.length)),(10,.d (int k))] []) (nH (show i<4611686018427387904 by omega))) (app [92] [s[i]]));rw[aAy];rfl
   .conv=>whnf
    repeat ((first|refine e7 ?_|refine e6 ?_);conv=>whnf)
    refine⟨ax7,?_⟩;refine bj ?_;refine⟨s.length-(i+1),axW,i+1,o++[s[i]],axW,rfl,axZ,?_,?_⟩
    .rw[<-ax,aY];simp only[mg,h1,sh,Bool.or_self,aAw,aBj,List.singleton_append]
    .refine aAf ?_ (congrArg (Ac s (o++[s[i]]) s.length) (nH (show i<4611686018427387904 by omega)));unfold Ac;rw[aAy];rfl
 .conv=>whnf
  repeat ((first|refine e7 ?_|refine e6 ?_);conv=>whnf)
  refine⟨ax7,?_⟩;conv=>whnf
  repeat ((first|refine e7 ?_|refine e6 ?_);conv=>whnf)
  have cG:¬i<s.length:=axY;have kZ:o=34::mg s:=by grind[mg]
  have hu:oD (o.map gk++[.int .u8 34])=some (34::(mg s++[34])):=by
   have:=L2 (o++[34]);rw[aAy,kZ]at this;rw[kZ];exact this
  simp only[hu];refine bj ?_;exact⟨axV,axV⟩
end
def p5(k n:Int)(t:aw):D:=.agg [int k,int n,.str t]
theorem anh(s:aw)(hs:s.length<=1073741824):aM 183 [.d (p5 2 0 s)] [] (.d (.bool (xT s))) []:=by
 refine ZR.fh ?_;refine bj ?_;refine⟨_,_,abo s hs,?_⟩;refine bj ?_;exact⟨axV,axV⟩
def Gm(s:aw):aw:=cond (xT s) (34::(mg s++[34])) []
theorem ani(s:aw)(hs:s.length<=1073741824):aM 136 [.d (p5 2 0 s)] [] (.d (.str (Gm s))) []:=by
 refine XK.fh ?_;refine bj ?_;refine⟨_,_,anh s hs,?_⟩;refine bj ?_;refine S0 (λh=> ?_) (λh=> ?_)
 .refine bj ?_;exact⟨by unfold Gm;rw[h];rfl,axV⟩
 .refine bj ?_;refine⟨_,_,abp s hs,?_⟩;refine bj ?_;exact⟨by unfold Gm;rw[h];rfl,axV⟩
theorem Gn:∀(e:Bool) (l:aw),(lE e l).length<=l.length
 |e,[]=>by cases e<;>exact aAd _
 |e,c::l=>by
  have h1:=Gn true l;have sh:=Gn false l;simp only[lE];grind
def p6(m:aw):Option aw:=cond (decide (Gm (lE false m)=34::(m++[34]))) (some (lE false m)) none
section
attribute [local irreducible] instDecidableEqList
theorem anj(m:aw)(hs:m.length<=1073741824):aM 170 [.d (.str (34::(m++[34])))] [] (match p6 m with
  |some t=>.tuple [.d (p5 2 0 t),.d (int 0)]
  |none=>.tuple [.d (p5 0 0 []),.d (int 20)]) []:=by
 have hu:=Gn false m;refine al3.fh ?_;refine bj ?_;refine⟨_,_,L4,?_⟩;refine bj ?_;conv=>whnf
 repeat ((first|refine e7 ?_|refine e6 ?_);conv=>whnf)
 have aI:((34::(m++[34]):aw).length:Int)=((m.length+2:Nat):Int):=axZ;have hw:IntKind.i64.wrap (((34::(m++[34]):aw).length:Int)-1)=((m.length+1:Nat):Int):=ay8;have aC:(34::(m++[34]):aw).getD (Int.toNat ((m.length+1:Nat):Int)) 0=34:=axX;have aA:decide ((1:Int)<((34::(m++[34]):aw).length:Int))=true:=aAk axW;refine KI axX ?_;conv=>whnf
 repeat ((first|refine e7 ?_|refine e6 ?_);conv=>whnf)
 refine⟨axZ,?_⟩;conv=>whnf
 repeat ((first|refine e7 ?_|refine e6 ?_);conv=>whnf)
 simp only[hw,aC];refine⟨axZ,?_⟩;conv=>whnf
 repeat ((first|refine e7 ?_|refine e6 ?_);conv=>whnf)
 have CY:((34::(m++[34]):aw).drop (Int.toNat 1)).take (Int.toNat ((m.length+1:Nat):Int)-Int.toNat 1)=m:=axX;simp only[hw];refine⟨axZ,?_⟩;conv=>whnf
 repeat ((first|refine e7 ?_|refine e6 ?_);conv=>whnf)
 simp only[CY];refine cm (ang m axW) ?_;refine cm (L3 (lE false m)) ?_;refine cm (ani (lE false m) axW) ?_;refine S0 (λh=> ?_) (λh=> ?_)
 .have aE:p6 m=none:=by grind[p6]
  refine bj ?_;exact⟨aAf (b:=ah.tuple [.d (p5 0 0 []),.d (int 20)]) axV (by rw[aE]),axV⟩
 .have aE:p6 m=some (lE false m):=by grind[p6]
  refine bj ?_;exact⟨aAf (b:=ah.tuple [.d (p5 2 0 (lE false m)),.d (int 0)]) axV (by rw[aE]),axV⟩
end
theorem ank(l:aw)(aI:l.length<=1073741824):aM 168 [.d (.str l)] [] (match Lib.atoiAll l with
  |.ok v=>.tuple [.d (int v),.d .iy]
  |.range=>.tuple [.d (int (Lib.atoiSat l)),.d .hT]
  |Lib.NumEnd.syntax=>.tuple [.d (int 0),.d .hT]) []:=by
 cases h:Lib.atoiAll l with
 |ok v=>grind[SE,uf.ca,exts,uf.a]
 |range=>exact SG exts.ca exts.FO axW h
 |_=>exact SH exts.ca exts.FO axW h
theorem abr(l:aw)(aI:l.length<=1073741824):(∃v,Lib.atoiAll l=.ok v/\aM 168 [.d (.str l)] [] (.tuple [.d (int v),.d .iy]) [])\/
  ∃n,(∀v,Lib.atoiAll l≠.ok v)/\aM 168 [.d (.str l)] [] (.tuple [.d (int n),.d .hT]) []:=by
 grind[ank]
def fv(a b:aw):Bool:=decide ((b.length:Int)<=a.length)&&decide (a.take b.length=b)
section
attribute [local irreducible] Int.decLt Int.decLe Int.instDecidableEq IntKind.wrap instDecidableEqList
theorem anl(a b:aw):aM 213 [.d (.str a),.d (.str b)] [] (.d (.bool (fv a b))) []:=by
 refine UI.fh ?_;conv=>whnf
 repeat ((first|refine e7 ?_|refine e6 ?_);conv=>whnf)
 refine SZ (λh=> ?_) (λh=> ?_)
 .conv=>whnf
  repeat ((first|refine e7 ?_|refine e6 ?_);conv=>whnf)
  have cG:b.length<=a.length:=axY;refine⟨axY,?_⟩;have aE:((a.drop (Int.toNat 0)).take (Int.toNat (b.length:Int)-Int.toNat 0))=a.take b.length:=axX;simp only[aE];conv=>whnf
  repeat ((first|refine e7 ?_|refine e6 ?_);conv=>whnf)
  exact⟨by unfold fv;rw[h];rfl,axV⟩
 .conv=>whnf
  repeat ((first|refine e7 ?_|refine e6 ?_);conv=>whnf)
  exact⟨by unfold fv;rw[h];rfl,axV⟩
theorem lF(a b:aw):aM 171 [.d (.str a),.d (.str b)] [] (.d (.bool (fv a b))) []:=by
 refine ZM.fh ?_;refine bj ?_;refine⟨_,_,anl a b,?_⟩;refine bj ?_;exact⟨axV,axV⟩
end
structure Ad where
 k:Int
 t:aw
 n:Int
 len:Option Nat
 e:Int
def eQ(e:Int):Ad:=⟨0,[],0,none,e⟩
def aDp:List aw:=[[33,61],[60,61],[62,61],[46,46],[40],[41],[44],[59],[58],[124],[43],[45],[42],[47],[37],[61],[60],[62]]
def vO(r:aw):List aw->Option aw
 |[]=>none
 |x::l=>cond (fv r x) (some x) (vO r l)
def dx:aw->Ad
 |[]=>eQ 50
 |c::l=>
  cond (z8 c) (cond (decide ((16:Int)<(ez k8 (c::l):Nat))) (eQ 50) ⟨1,(c::l).take (ez k8 (c::l)),0,some (ez k8 (c::l)),0⟩)
  (cond (jg c) (cond (decide ((c.toNat:Int)=48)&&decide ((1:Int)<(ez jg (c::l):Nat))) (eQ 50) (match Lib.atoiAll ((c::l).take (ez jg (c::l)))with
   |.ok v=>⟨2,[],v,some (ez jg (c::l)),0⟩
   |_=>eQ 10))
  (cond (decide ((c.toNat:Int)=34)) (match k9 l with
   |none=>eQ 50
   |some m=>match p6 (l.take (m-1))with
    |none=>eQ 50
    |some t=>⟨3,t,0,some (m+1),0⟩)
  (match vO (c::l) aDp with
   |none=>eQ 50
   |some x=>⟨4,x,0,some x.length,0⟩)))
def Gp(k:Nat)(x:Ad):Int:=match x.len with
 |some m=>((k+m:Nat):Int)
 |none=>0
def nI(k:Nat)(x:Ad):ah:=.tuple [.d (.agg [int x.k,.str x.t,int x.n,int k]),.d (int (Gp k x)),.d (int x.e)]
theorem anm:∀(n:Nat) (l:aw),l.length<=n->∀m,k9 l=some m->l.take m=l.take (m-1)++[34]:=by
 intro n;induction n with
 |zero=>
  grind[k9]
 |succ n ih=>
  intro l aI m h;cases l with
  |nil=>simp_all
  |cons c l=>
   unfold k9 at h;cases h1:decide ((c.toNat:Int)=92)with
   |true=>
    rw[h1]at h;simp only[aAg]at h;cases l with
    |nil=>grind
    |cons d l=>
     simp only[aA0]at h;obtain⟨q,aS,rfl⟩:=h;have:=ih l axZ q aS;have Iy:=(Gk _ l (aAd _) q aS).1;obtain⟨q',rfl⟩:∃q',q=q'+1:=⟨q-1,axW⟩;simp_all
   |false=>
    rw[h1]at h;simp only[aAw]at h;cases sh:decide ((c.toNat:Int)=34)with
    |true=>
     rw[sh]at h;simp only[aAg,aAe]at h;subst h;have:c=34:=by
      have:=of_decide_eq_true sh;apply UInt8.toNat_inj.1;grind
     simp_all
    |false=>
     rw[sh]at h;simp only[aAw,aA0]at h;obtain⟨q,aS,rfl⟩:=h;have:=ih l axY q aS;have Iy:=(Gk _ l (aAd _) q aS).1;obtain⟨q',rfl⟩:∃q',q=q'+1:=⟨q-1,axW⟩;simp_all
theorem drop_take(s:aw){k m:Nat}:((s.drop (Int.toNat (k:Int))).take (Int.toNat ((k+m:Nat):Int)-Int.toNat (k:Int)))=(s.drop k).take m:=axZ
section
attribute [local irreducible] Int.decLt Int.decLe Int.instDecidableEq IntKind.wrap instDecidableEqList
theorem ano(k m:Nat)(h:k+m<=1073741824):IntKind.i64.wrap (((k+m:Nat):Int)-(k:Int))=(m:Int):=ay8
theorem iL(k m:Nat)(h:k+m<=2147483648):IntKind.i64.wrap ((k:Int)+(m:Int))=((k+m:Nat):Int):=ay8
def anp(s:aw)(k i:Int):ag:=pV [(0,.d (.str s)),(1,.d (int k)),(4,.dT 4 0),(19,.d (.agg (aDp.map D.str))),(20,.d (int i))] [(4,[.d (int 0),.d (.str []),.d (int 0),.d (int k)])] []
theorem anq(s:aw)(k:Nat)(aq:k<s.length)(hs:s.length<=1073741824):aM 117 [.d (.str s),.d (int k)] [] (nI k (dx (s.drop k))) []:=by
 have aY:=aBg aq;have hlen:(s.drop k).length=s.length-k:=aBZ;have awe:decide ((20:Int)=0)=false:=aAK axW;have ji:decide ((0:Int)=0)=true:=aAk rfl;refine Lb.fh ?_;conv=>whnf
 repeat ((first|refine e7 ?_|refine e6 ?_);conv=>whnf)
 refine⟨axY,?_⟩;rw[getD_at aq];refine bj ?_;have fin:∀x:Ad,dx (s.drop k)=x->nI k x=nI k (dx (s.drop k)):=λx h=>congrArg (nI k) h.symm;refine⟨_,_,ana s[k],?_⟩;refine bj ?_;first|refine eK (λh1=> ?_) (λh1=> ?_)|((refine eE (λh1=> ?_) (λh1=> ?_))<;>(try simp only[aAg]at h1))
 .refine bj ?_;have ax:=LZ s k 166 k8 anb axW hs;have hle:=Aa k8 (s.drop k);refine⟨_,_,ax,?_⟩;refine bj ?_;simp only[ano k (ez k8 (s.drop k)) axW];first|refine eK (λsh=> ?_) (λsh=> ?_)|((refine eE (λsh=> ?_) (λsh=> ?_))<;>(try simp only[aAg]at sh))
  .have ay:dx (s.drop k)=eQ 50:=by
    rw[aY]at sh⊢;simp_all[dx]
   refine bj ?_;exact⟨aAf (b:=nI k (eQ 50)) axV (fin _ ay),axV⟩
  .have ay:dx (s.drop k)=⟨1,(s.drop k).take (ez k8 (s.drop k)),0,some (ez k8 (s.drop k)),0⟩:=by
    rw[aY]at sh⊢;simp only[dx,h1,aAg,aAw,sh]
   conv=>whnf
   repeat ((first|refine e7 ?_|refine e6 ?_);conv=>whnf)
   refine⟨ax7,?_⟩;conv=>whnf
   repeat ((first|refine e7 ?_|refine e6 ?_);conv=>whnf)
   simp only[drop_take];refine bj ?_;exact⟨aAf (b:=nI k ⟨1,(s.drop k).take (ez k8 (s.drop k)),0,some (ez k8 (s.drop k)),0⟩) axV (fin _ ay),axV⟩
 refine bj ?_;refine⟨_,_,abf s[k],?_⟩;refine bj ?_;first|refine eK (λsh=> ?_) (λsh=> ?_)|((refine eE (λsh=> ?_) (λsh=> ?_))<;>(try simp only[aAg]at sh))
 .refine bj ?_;have ax:=LZ s k 167 jg abf axW hs;have hle:=Aa jg (s.drop k);refine⟨_,_,ax,?_⟩;refine bj ?_
  have num:(decide (((s[k]).toNat:Int)=48)&&decide ((1:Int)<(ez jg (s.drop k):Nat)))=false->∀x:Ad,(match Lib.atoiAll ((s.drop k).take (ez jg (s.drop k)))with
    |.ok v=>⟨2,[],v,some (ez jg (s.drop k)),0⟩
    |_=>eQ 10)=x->dx (s.drop k)=x:=by
   intro h x ak;rw[<-ak];rw[aY]at h⊢;simp only[dx,h1,sh,aAg,aAw,h]
  have bad:(decide (((s[k]).toNat:Int)=48)&&decide ((1:Int)<(ez jg (s.drop k):Nat)))=true->dx (s.drop k)=eQ 50:=by
   intro h;rw[aY]at h⊢;simp only[dx,h1,sh,aAg,aAw,h]
  have pD:((s.drop k).take (ez jg (s.drop k))).length<=1073741824:=axZ;refine SZ (λav=> ?_) (λav=> ?_)
  .conv=>whnf
   repeat ((first|refine e7 ?_|refine e6 ?_);conv=>whnf)
   simp only[nH (show k<4611686018427387904 by omega)];first|refine eK (λaW=> ?_) (λaW=> ?_)|((refine eE (λaW=> ?_) (λaW=> ?_))<;>(try simp only[aAg]at aW))
   .have L1:decide ((1:Int)<(ez jg (s.drop k):Nat))=true:=aAk axY;refine bj ?_;exact⟨aAf (b:=nI k (eQ 50)) axV (fin _ (bad axY)),axV⟩
   .have L1:decide ((1:Int)<(ez jg (s.drop k):Nat))=false:=aAK axY;have CZ:=num axY;conv=>whnf
    repeat ((first|refine e7 ?_|refine e6 ?_);conv=>whnf)
    refine⟨ax7,?_⟩;conv=>whnf
    repeat ((first|refine e7 ?_|refine e6 ?_);conv=>whnf)
    simp only[drop_take];refine aBt (abr _ pD) (λh=> ?_) (λh=> ?_)
    .refine aAz h (λv hv=> ?_);refine cm (hv.2) ?_;exact⟨aAf (b:=nI k ⟨2,[],v,some (ez jg (s.drop k)),0⟩) axV (fin _ (CZ _ axZ)),axV⟩
    .refine aAz h (λv hv=> ?_);refine cm (hv.2) ?_;exact⟨aAf (b:=nI k (eQ 10)) axV (fin _ (CZ _ axY)),axV⟩
  .have CZ:=num axY;conv=>whnf
   repeat ((first|refine e7 ?_|refine e6 ?_);conv=>whnf)
   refine⟨ax7,?_⟩;conv=>whnf
   repeat ((first|refine e7 ?_|refine e6 ?_);conv=>whnf)
   simp only[drop_take];refine aBt (abr _ pD) (λh=> ?_) (λh=> ?_)
   .refine aAz h (λv hv=> ?_);refine cm (hv.2) ?_;exact⟨aAf (b:=nI k ⟨2,[],v,some (ez jg (s.drop k)),0⟩) axV (fin _ (CZ _ axZ)),axV⟩
   .refine aAz h (λv hv=> ?_);refine cm (hv.2) ?_;exact⟨aAf (b:=nI k (eQ 10)) axV (fin _ (CZ _ axY)),axV⟩
 refine bj ?_;first|refine eK (λav=> ?_) (λav=> ?_)|((refine eE (λav=> ?_) (λav=> ?_))<;>(try simp only[aAg]at av))
 .refine bj ?_;refine⟨_,_,anf s k aq hs,?_⟩;refine bj ?_
  have base:dx (s.drop k)=(match k9 (s.drop (k+1))with
   |none=>eQ 50
   |some m=>match p6 ((s.drop (k+1)).take (m-1))with
    |none=>eQ 50
    |some t=>⟨3,t,0,some (m+1),0⟩):=by
   rw[aY];simp_all[dx]
  have C0:k9 (s.drop (k+1))=none\/∃m,k9 (s.drop (k+1))=some m:=axZ;refine aBt C0 (λh=> ?_) (λh=>aAz h (λm hm=> ?_))
  .have ay:dx (s.drop k)=eQ 50:=by simp_all
   refine k6 (aAk (by rw[h];show(-1:Int)<0;omega)) ?_;refine bj ?_;exact⟨aAf (b:=nI k (eQ 50)) axV (fin _ ay),axV⟩
  .have au:=Gk _ _ (aAd _) m hm;rw[aBZ]at au;have gu:vN (k+1) (k9 (s.drop (k+1)))=((k+(m+1):Nat):Int):=by grind[vN]
   have CY:(s.drop k).take (m+1)=34::((s.drop (k+1)).take (m-1)++[34]):=by
    rw[aY,aCe,anm _ _ (aAd _) m hm];congr 1;have:=of_decide_eq_true av;apply UInt8.toNat_inj.1;grind
   simp only[gu];refine KI (aAK axW) ?_;conv=>whnf
   repeat ((first|refine e7 ?_|refine e6 ?_);conv=>whnf)
   refine⟨ax7,?_⟩;conv=>whnf
   repeat ((first|refine e7 ?_|refine e6 ?_);conv=>whnf)
   simp only[drop_take,CY];have hp:=anj ((s.drop (k+1)).take (m-1)) axZ;have anr:(p6 ((s.drop (k+1)).take (m-1))=none/\aM 170 [.d (.str (34::((s.drop (k+1)).take (m-1)++[34])))] [] (.tuple [.d (p5 0 0 []),.d (int 20)]) [])\/∃t,p6 ((s.drop (k+1)).take (m-1))=some t/\aM 170 [.d (.str (34::((s.drop (k+1)).take (m-1)++[34])))] [] (.tuple [.d (p5 2 0 t),.d (int 0)]) []:=by
    cases aE:p6 ((s.drop (k+1)).take (m-1))with
    |none=>rw[aE]at hp;exact .inl ⟨rfl,hp⟩
    |some t=>rw[aE]at hp;exact .inr ⟨t,rfl,hp⟩
   refine aBt anr (λh=> ?_) (λh=>aAz h (λt aE=> ?_))
   .have ay:dx (s.drop k)=eQ 50:=by simp_all
    refine cm (h.2) ?_;exact⟨aAf (b:=nI k (eQ 50)) axV (fin _ ay),axV⟩
   .have ay:dx (s.drop k)=⟨3,t,0,some (m+1),0⟩:=by simp_all
    refine cm (aE.2) ?_;exact⟨aAf (b:=nI k ⟨3,t,0,some (m+1),0⟩) axV (fin _ ay),axV⟩
 have base:dx (s.drop k)=(match vO (s.drop k) aDp with
   |none=>eQ 50
   |some x=>⟨4,x,0,some x.length,0⟩):=by
  rw[aY];simp_all[dx]
 have kd:((s.drop (Int.toNat (k:Int))).take (Int.toNat (s.length:Int)-Int.toNat (k:Int)))=s.drop k:=by
  grind[Int.toNat_natCast]
 have lo:(0:Int)<=(k:Int):=axW;refine bj ?_;refine⟨λn st=>∃i:Nat,i<=18/\n=18-i/\vO (s.drop k) (aDp.drop i)=vO (s.drop k) aDp/\st=anp s k i,18,⟨0,axW,rfl,rfl,axV⟩,?_⟩;rintro _ _ ⟨i,hi,rfl,ax,rfl⟩;obtain rfl|rfl|rfl|rfl|rfl|rfl|rfl|rfl|rfl|rfl|rfl|rfl|rfl|rfl|rfl|rfl|rfl|rfl|rfl:i=0\/i=1\/i=2\/i=3\/i=4\/i=5\/i=6\/i=7\/i=8\/i=9\/i=10\/i=11\/i=12\/i=13\/i=14\/i=15\/i=16\/i=17\/i=18:=axW
 .refine bj ?_;refine k6 (aAk axW) ?_;conv=>whnf
  refine⟨axV,?_⟩;conv=>whnf
  refine⟨axZ,?_⟩;conv=>whnf
  simp only[kd];refine bj ?_;refine cm (lF (s.drop k) [33,61]) ?_;first|refine eK (λh=> ?_) (λh=> ?_)|((refine eE (λh=> ?_) (λh=> ?_))<;>(try simp only[aAg]at h))
  .have ay:dx (s.drop k)=⟨4,[33,61],0,some 2,0⟩:=by
    rw[base,<-ax];show(match cond (fv (s.drop k) [33,61]) (some [33,61]) _ with|none=>eQ 50|some x=>⟨4,x,0,some x.length,0⟩)=_;rw[h];rfl
   refine bj ?_;exact⟨aAf (aAf (b:=ah.tuple [.d (.agg [int 4,.str [33,61],int 0,int k]),.d (int (IntKind.i64.wrap ((k:Int)+((2:Nat):Int)))),.d (int 0)]) axV (congrArg (λe=>ah.tuple [.d (.agg [int 4,.str [33,61],int 0,int k]),.d (int e),.d (int 0)]) (iL k 2 axW))) (fin _ ay),axV⟩
  .refine bj ?_;refine⟨17-0,axW,0+1,axW,axW,?_,axV⟩;rw[<-ax];show _=cond (fv (s.drop k) [33,61]) (some [33,61]) _;rw[h];rfl
 .refine bj ?_;refine k6 (aAk axW) ?_;conv=>whnf
  refine⟨axV,?_⟩;conv=>whnf
  refine⟨axZ,?_⟩;conv=>whnf
  simp only[kd];refine bj ?_;refine cm (lF (s.drop k) [60,61]) ?_;first|refine eK (λh=> ?_) (λh=> ?_)|((refine eE (λh=> ?_) (λh=> ?_))<;>(try simp only[aAg]at h))
  .have ay:dx (s.drop k)=⟨4,[60,61],0,some 2,0⟩:=by
    rw[base,<-ax];show(match cond (fv (s.drop k) [60,61]) (some [60,61]) _ with|none=>eQ 50|some x=>⟨4,x,0,some x.length,0⟩)=_;rw[h];rfl
   refine bj ?_;exact⟨aAf (aAf (b:=ah.tuple [.d (.agg [int 4,.str [60,61],int 0,int k]),.d (int (IntKind.i64.wrap ((k:Int)+((2:Nat):Int)))),.d (int 0)]) axV (congrArg (λe=>ah.tuple [.d (.agg [int 4,.str [60,61],int 0,int k]),.d (int e),.d (int 0)]) (iL k 2 axW))) (fin _ ay),axV⟩
  .refine bj ?_;refine⟨17-1,axW,1+1,axW,axW,?_,axV⟩;rw[<-ax];show _=cond (fv (s.drop k) [60,61]) (some [60,61]) _;rw[h];rfl
 .refine bj ?_;refine k6 (aAk axW) ?_;conv=>whnf
  refine⟨axV,?_⟩;conv=>whnf
  refine⟨axZ,?_⟩;conv=>whnf
  simp only[kd];refine bj ?_;refine cm (lF (s.drop k) [62,61]) ?_;first|refine eK (λh=> ?_) (λh=> ?_)|((refine eE (λh=> ?_) (λh=> ?_))<;>(try simp only[aAg]at h))
  .have ay:dx (s.drop k)=⟨4,[62,61],0,some 2,0⟩:=by
    rw[base,<-ax];show(match cond (fv (s.drop k) [62,61]) (some [62,61]) _ with|none=>eQ 50|some x=>⟨4,x,0,some x.length,0⟩)=_;rw[h];rfl
   refine bj ?_;exact⟨aAf (aAf (b:=ah.tuple [.d (.agg [int 4,.str [62,61],int 0,int k]),.d (int (IntKind.i64.wrap ((k:Int)+((2:Nat):Int)))),.d (int 0)]) axV (congrArg (λe=>ah.tuple [.d (.agg [int 4,.str [62,61],int 0,int k]),.d (int e),.d (int 0)]) (iL k 2 axW))) (fin _ ay),axV⟩
  .refine bj ?_;refine⟨17-2,axW,2+1,axW,axW,?_,axV⟩;rw[<-ax];show _=cond (fv (s.drop k) [62,61]) (some [62,61]) _;rw[h];rfl
 .refine bj ?_;refine k6 (aAk axW) ?_;conv=>whnf
  refine⟨axV,?_⟩;conv=>whnf
  refine⟨axZ,?_⟩;conv=>whnf
  simp only[kd];refine bj ?_;refine cm (lF (s.drop k) [46,46]) ?_;first|refine eK (λh=> ?_) (λh=> ?_)|((refine eE (λh=> ?_) (λh=> ?_))<;>(try simp only[aAg]at h))
  .have ay:dx (s.drop k)=⟨4,[46,46],0,some 2,0⟩:=by
    rw[base,<-ax];show(match cond (fv (s.drop k) [46,46]) (some [46,46]) _ with|none=>eQ 50|some x=>⟨4,x,0,some x.length,0⟩)=_;rw[h];rfl
   refine bj ?_;exact⟨aAf (aAf (b:=ah.tuple [.d (.agg [int 4,.str [46,46],int 0,int k]),.d (int (IntKind.i64.wrap ((k:Int)+((2:Nat):Int)))),.d (int 0)]) axV (congrArg (λe=>ah.tuple [.d (.agg [int 4,.str [46,46],int 0,int k]),.d (int e),.d (int 0)]) (iL k 2 axW))) (fin _ ay),axV⟩
  .refine bj ?_;refine⟨17-3,axW,3+1,axW,axW,?_,axV⟩;rw[<-ax];show _=cond (fv (s.drop k) [46,46]) (some [46,46]) _;rw[h];rfl
 .refine bj ?_;refine k6 (aAk axW) ?_;conv=>whnf
  refine⟨axV,?_⟩;conv=>whnf
  refine⟨axZ,?_⟩;conv=>whnf
  simp only[kd];refine bj ?_;refine cm (lF (s.drop k) [40]) ?_;first|refine eK (λh=> ?_) (λh=> ?_)|((refine eE (λh=> ?_) (λh=> ?_))<;>(try simp only[aAg]at h))
  .have ay:dx (s.drop k)=⟨4,[40],0,some 1,0⟩:=by
    rw[base,<-ax];show(match cond (fv (s.drop k) [40]) (some [40]) _ with|none=>eQ 50|some x=>⟨4,x,0,some x.length,0⟩)=_;rw[h];rfl
   refine bj ?_;exact⟨aAf (aAf (b:=ah.tuple [.d (.agg [int 4,.str [40],int 0,int k]),.d (int (IntKind.i64.wrap ((k:Int)+((1:Nat):Int)))),.d (int 0)]) axV (congrArg (λe=>ah.tuple [.d (.agg [int 4,.str [40],int 0,int k]),.d (int e),.d (int 0)]) (iL k 1 axW))) (fin _ ay),axV⟩
  .refine bj ?_;refine⟨17-4,axW,4+1,axW,axW,?_,axV⟩;rw[<-ax];show _=cond (fv (s.drop k) [40]) (some [40]) _;rw[h];rfl
 .refine bj ?_;refine k6 (aAk axW) ?_;conv=>whnf
  refine⟨axV,?_⟩;conv=>whnf
  refine⟨axZ,?_⟩;conv=>whnf
  simp only[kd];refine bj ?_;refine cm (lF (s.drop k) [41]) ?_;first|refine eK (λh=> ?_) (λh=> ?_)|((refine eE (λh=> ?_) (λh=> ?_))<;>(try simp only[aAg]at h))
  .have ay:dx (s.drop k)=⟨4,[41],0,some 1,0⟩:=by
    rw[base,<-ax];show(match cond (fv (s.drop k) [41]) (some [41]) _ with|none=>eQ 50|some x=>⟨4,x,0,some x.length,0⟩)=_;rw[h];rfl
   refine bj ?_;exact⟨aAf (aAf (b:=ah.tuple [.d (.agg [int 4,.str [41],int 0,int k]),.d (int (IntKind.i64.wrap ((k:Int)+((1:Nat):Int)))),.d (int 0)]) axV (congrArg (λe=>ah.tuple [.d (.agg [int 4,.str [41],int 0,int k]),.d (int e),.d (int 0)]) (iL k 1 axW))) (fin _ ay),axV⟩
  .refine bj ?_;refine⟨17-5,axW,5+1,axW,axW,?_,axV⟩;rw[<-ax];show _=cond (fv (s.drop k) [41]) (some [41]) _;rw[h];rfl
 .refine bj ?_;refine k6 (aAk axW) ?_;conv=>whnf
  refine⟨axV,?_⟩;conv=>whnf
  refine⟨axZ,?_⟩;conv=>whnf
  simp only[kd];refine bj ?_;refine cm (lF (s.drop k) [44]) ?_;first|refine eK (λh=> ?_) (λh=> ?_)|((refine eE (λh=> ?_) (λh=> ?_))<;>(try simp only[aAg]at h))
  .have ay:dx (s.drop k)=⟨4,[44],0,some 1,0⟩:=by
    rw[base,<-ax];show(match cond (fv (s.drop k) [44]) (some [44]) _ with|none=>eQ 50|some x=>⟨4,x,0,some x.length,0⟩)=_;rw[h];rfl
   refine bj ?_;exact⟨aAf (aAf (b:=ah.tuple [.d (.agg [int 4,.str [44],int 0,int k]),.d (int (IntKind.i64.wrap ((k:Int)+((1:Nat):Int)))),.d (int 0)]) axV (congrArg (λe=>ah.tuple [.d (.agg [int 4,.str [44],int 0,int k]),.d (int e),.d (int 0)]) (iL k 1 axW))) (fin _ ay),axV⟩
  .refine bj ?_;refine⟨17-6,axW,6+1,axW,axW,?_,axV⟩;rw[<-ax];show _=cond (fv (s.drop k) [44]) (some [44]) _;rw[h];rfl
 .refine bj ?_;refine k6 (aAk axW) ?_;conv=>whnf
  refine⟨axV,?_⟩;conv=>whnf
  refine⟨axZ,?_⟩;conv=>whnf
  simp only[kd];refine bj ?_;refine cm (lF (s.drop k) [59]) ?_;first|refine eK (λh=> ?_) (λh=> ?_)|((refine eE (λh=> ?_) (λh=> ?_))<;>(try simp only[aAg]at h))
  .have ay:dx (s.drop k)=⟨4,[59],0,some 1,0⟩:=by
    rw[base,<-ax];show(match cond (fv (s.drop k) [59]) (some [59]) _ with|none=>eQ 50|some x=>⟨4,x,0,some x.length,0⟩)=_;rw[h];rfl
   refine bj ?_;exact⟨aAf (aAf (b:=ah.tuple [.d (.agg [int 4,.str [59],int 0,int k]),.d (int (IntKind.i64.wrap ((k:Int)+((1:Nat):Int)))),.d (int 0)]) axV (congrArg (λe=>ah.tuple [.d (.agg [int 4,.str [59],int 0,int k]),.d (int e),.d (int 0)]) (iL k 1 axW))) (fin _ ay),axV⟩
  .refine bj ?_;refine⟨17-7,axW,7+1,axW,axW,?_,axV⟩;rw[<-ax];show _=cond (fv (s.drop k) [59]) (some [59]) _;rw[h];rfl
 .refine bj ?_;refine k6 (aAk axW) ?_;conv=>whnf
  refine⟨axV,?_⟩;conv=>whnf
  refine⟨axZ,?_⟩;conv=>whnf
  simp only[kd];refine bj ?_;refine cm (lF (s.drop k) [58]) ?_;first|refine eK (λh=> ?_) (λh=> ?_)|((refine eE (λh=> ?_) (λh=> ?_))<;>(try simp only[aAg]at h))
  .have ay:dx (s.drop k)=⟨4,[58],0,some 1,0⟩:=by
    rw[base,<-ax];show(match cond (fv (s.drop k) [58]) (some [58]) _ with|none=>eQ 50|some x=>⟨4,x,0,some x.length,0⟩)=_;rw[h];rfl
   refine bj ?_;exact⟨aAf (aAf (b:=ah.tuple [.d (.agg [int 4,.str [58],int 0,int k]),.d (int (IntKind.i64.wrap ((k:Int)+((1:Nat):Int)))),.d (int 0)]) axV (congrArg (λe=>ah.tuple [.d (.agg [int 4,.str [58],int 0,int k]),.d (int e),.d (int 0)]) (iL k 1 axW))) (fin _ ay),axV⟩
  .refine bj ?_;refine⟨17-8,axW,8+1,axW,axW,?_,axV⟩;rw[<-ax];show _=cond (fv (s.drop k) [58]) (some [58]) _;rw[h];rfl
 .refine bj ?_;refine k6 (aAk axW) ?_;conv=>whnf
  refine⟨axV,?_⟩;conv=>whnf
  refine⟨axZ,?_⟩;conv=>whnf
  simp only[kd];refine bj ?_;refine cm (lF (s.drop k) [124]) ?_;first|refine eK (λh=> ?_) (λh=> ?_)|((refine eE (λh=> ?_) (λh=> ?_))<;>(try simp only[aAg]at h))
  .have ay:dx (s.drop k)=⟨4,[124],0,some 1,0⟩:=by
    rw[base,<-ax];show(match cond (fv (s.drop k) [124]) (some [124]) _ with|none=>eQ 50|some x=>⟨4,x,0,some x.length,0⟩)=_;simp_all
   refine bj ?_;exact⟨aAf (aAf (b:=ah.tuple [.d (.agg [int 4,.str [124],int 0,int k]),.d (int (IntKind.i64.wrap ((k:Int)+((1:Nat):Int)))),.d (int 0)]) axV (congrArg (λe=>ah.tuple [.d (.agg [int 4,.str [124],int 0,int k]),.d (int e),.d (int 0)]) (iL k 1 axW))) (fin _ ay),axV⟩
  .refine bj ?_;refine⟨17-9,axW,9+1,axW,axW,?_,axV⟩;rw[<-ax];show _=cond (fv (s.drop k) [124]) (some [124]) _;rw[h];rfl
 .refine bj ?_;refine k6 (aAk axW) ?_;conv=>whnf
  refine⟨axV,?_⟩;conv=>whnf
  refine⟨axZ,?_⟩;conv=>whnf
  simp only[kd];refine bj ?_;refine cm (lF (s.drop k) [43]) ?_;first|refine eK (λh=> ?_) (λh=> ?_)|((refine eE (λh=> ?_) (λh=> ?_))<;>(try simp only[aAg]at h))
  .have ay:dx (s.drop k)=⟨4,[43],0,some 1,0⟩:=by
    rw[base,<-ax];show(match cond (fv (s.drop k) [43]) (some [43]) _ with|none=>eQ 50|some x=>⟨4,x,0,some x.length,0⟩)=_;simp_all
   refine bj ?_;exact⟨aAf (aAf (b:=ah.tuple [.d (.agg [int 4,.str [43],int 0,int k]),.d (int (IntKind.i64.wrap ((k:Int)+((1:Nat):Int)))),.d (int 0)]) axV (congrArg (λe=>ah.tuple [.d (.agg [int 4,.str [43],int 0,int k]),.d (int e),.d (int 0)]) (iL k 1 axW))) (fin _ ay),axV⟩
  .refine bj ?_;refine⟨17-10,axW,10+1,axW,axW,?_,axV⟩;rw[<-ax];show _=cond (fv (s.drop k) [43]) (some [43]) _;rw[h];rfl
 .refine bj ?_;refine k6 (aAk axW) ?_;conv=>whnf
  refine⟨axV,?_⟩;conv=>whnf
  refine⟨axZ,?_⟩;conv=>whnf
  simp only[kd];refine bj ?_;refine cm (lF (s.drop k) [45]) ?_;first|refine eK (λh=> ?_) (λh=> ?_)|((refine eE (λh=> ?_) (λh=> ?_))<;>(try simp only[aAg]at h))
  .have ay:dx (s.drop k)=⟨4,[45],0,some 1,0⟩:=by
    rw[base,<-ax];show(match cond (fv (s.drop k) [45]) (some [45]) _ with|none=>eQ 50|some x=>⟨4,x,0,some x.length,0⟩)=_;simp_all
   refine bj ?_;exact⟨aAf (aAf (b:=ah.tuple [.d (.agg [int 4,.str [45],int 0,int k]),.d (int (IntKind.i64.wrap ((k:Int)+((1:Nat):Int)))),.d (int 0)]) axV (congrArg (λe=>ah.tuple [.d (.agg [int 4,.str [45],int 0,int k]),.d (int e),.d (int 0)]) (iL k 1 axW))) (fin _ ay),axV⟩
  .refine bj ?_;refine⟨17-11,axW,11+1,axW,axW,?_,axV⟩;rw[<-ax];show _=cond (fv (s.drop k) [45]) (some [45]) _;rw[h];rfl
 .refine bj ?_;refine k6 (aAk axW) ?_;conv=>whnf
  refine⟨axV,?_⟩;conv=>whnf
  refine⟨axZ,?_⟩;conv=>whnf
  simp only[kd];refine bj ?_;refine cm (lF (s.drop k) [42]) ?_;first|refine eK (λh=> ?_) (λh=> ?_)|((refine eE (λh=> ?_) (λh=> ?_))<;>(try simp only[aAg]at h))
  .have ay:dx (s.drop k)=⟨4,[42],0,some 1,0⟩:=by
    rw[base,<-ax];show(match cond (fv (s.drop k) [42]) (some [42]) _ with|none=>eQ 50|some x=>⟨4,x,0,some x.length,0⟩)=_;simp_all
   refine bj ?_;exact⟨aAf (aAf (b:=ah.tuple [.d (.agg [int 4,.str [42],int 0,int k]),.d (int (IntKind.i64.wrap ((k:Int)+((1:Nat):Int)))),.d (int 0)]) axV (congrArg (λe=>ah.tuple [.d (.agg [int 4,.str [42],int 0,int k]),.d (int e),.d (int 0)]) (iL k 1 axW))) (fin _ ay),axV⟩
  .refine bj ?_;refine⟨17-12,axW,12+1,axW,axW,?_,axV⟩;rw[<-ax];show _=cond (fv (s.drop k) [42]) (some [42]) _;rw[h];rfl
 .refine bj ?_;refine k6 (aAk axW) ?_;conv=>whnf
  refine⟨axV,?_⟩;conv=>whnf
  refine⟨axZ,?_⟩;conv=>whnf
  simp only[kd];refine bj ?_;refine cm (lF (s.drop k) [47]) ?_;first|refine eK (λh=> ?_) (λh=> ?_)|((refine eE (λh=> ?_) (λh=> ?_))<;>(try simp only[aAg]at h))
  .have ay:dx (s.drop k)=⟨4,[47],0,some 1,0⟩:=by
    rw[base,<-ax];show(match cond (fv (s.drop k) [47]) (some [47]) _ with|none=>eQ 50|some x=>⟨4,x,0,some x.length,0⟩)=_;simp_all
   refine bj ?_;exact⟨aAf (aAf (b:=ah.tuple [.d (.agg [int 4,.str [47],int 0,int k]),.d (int (IntKind.i64.wrap ((k:Int)+((1:Nat):Int)))),.d (int 0)]) axV (congrArg (λe=>ah.tuple [.d (.agg [int 4,.str [47],int 0,int k]),.d (int e),.d (int 0)]) (iL k 1 axW))) (fin _ ay),axV⟩
  .refine bj ?_;refine⟨17-13,axW,13+1,axW,axW,?_,axV⟩;rw[<-ax];show _=cond (fv (s.drop k) [47]) (some [47]) _;rw[h];rfl
 .refine bj ?_;refine k6 (aAk axW) ?_;conv=>whnf
  refine⟨axV,?_⟩;conv=>whnf
  refine⟨axZ,?_⟩;conv=>whnf
  simp only[kd];refine bj ?_;refine cm (lF (s.drop k) [37]) ?_;first|refine eK (λh=> ?_) (λh=> ?_)|((refine eE (λh=> ?_) (λh=> ?_))<;>(try simp only[aAg]at h))
  .have ay:dx (s.drop k)=⟨4,[37],0,some 1,0⟩:=by
    rw[base,<-ax];show(match cond (fv (s.drop k) [37]) (some [37]) _ with|none=>eQ 50|some x=>⟨4,x,0,some x.length,0⟩)=_;simp_all
   refine bj ?_;exact⟨aAf (aAf (b:=ah.tuple [.d (.agg [int 4,.str [37],int 0,int k]),.d (int (IntKind.i64.wrap ((k:Int)+((1:Nat):Int)))),.d (int 0)]) axV (congrArg (λe=>ah.tuple [.d (.agg [int 4,.str [37],int 0,int k]),.d (int e),.d (int 0)]) (iL k 1 axW))) (fin _ ay),axV⟩
  .refine bj ?_;refine⟨17-14,axW,14+1,axW,axW,?_,axV⟩;rw[<-ax];show _=cond (fv (s.drop k) [37]) (some [37]) _;rw[h];rfl
 .refine bj ?_;refine k6 (aAk axW) ?_;conv=>whnf
  refine⟨axV,?_⟩;conv=>whnf
  refine⟨axZ,?_⟩;conv=>whnf
  simp only[kd];refine bj ?_;refine cm (lF (s.drop k) [61]) ?_;first|refine eK (λh=> ?_) (λh=> ?_)|((refine eE (λh=> ?_) (λh=> ?_))<;>(try simp only[aAg]at h))
  .have ay:dx (s.drop k)=⟨4,[61],0,some 1,0⟩:=by
    rw[base,<-ax];show(match cond (fv (s.drop k) [61]) (some [61]) _ with|none=>eQ 50|some x=>⟨4,x,0,some x.length,0⟩)=_;simp_all
   refine bj ?_;exact⟨aAf (aAf (b:=ah.tuple [.d (.agg [int 4,.str [61],int 0,int k]),.d (int (IntKind.i64.wrap ((k:Int)+((1:Nat):Int)))),.d (int 0)]) axV (congrArg (λe=>ah.tuple [.d (.agg [int 4,.str [61],int 0,int k]),.d (int e),.d (int 0)]) (iL k 1 axW))) (fin _ ay),axV⟩
  .refine bj ?_;refine⟨17-15,axW,15+1,axW,axW,?_,axV⟩;rw[<-ax];show _=cond (fv (s.drop k) [61]) (some [61]) _;rw[h];rfl
 .refine bj ?_;refine k6 (aAk axW) ?_;conv=>whnf
  refine⟨axV,?_⟩;conv=>whnf
  refine⟨axZ,?_⟩;conv=>whnf
  simp only[kd];refine bj ?_;refine cm (lF (s.drop k) [60]) ?_;first|refine eK (λh=> ?_) (λh=> ?_)|((refine eE (λh=> ?_) (λh=> ?_))<;>(try simp only[aAg]at h))
  .have ay:dx (s.drop k)=⟨4,[60],0,some 1,0⟩:=by
    rw[base,<-ax];show(match cond (fv (s.drop k) [60]) (some [60]) _ with|none=>eQ 50|some x=>⟨4,x,0,some x.length,0⟩)=_;simp_all
   refine bj ?_;exact⟨aAf (aAf (b:=ah.tuple [.d (.agg [int 4,.str [60],int 0,int k]),.d (int (IntKind.i64.wrap ((k:Int)+((1:Nat):Int)))),.d (int 0)]) axV (congrArg (λe=>ah.tuple [.d (.agg [int 4,.str [60],int 0,int k]),.d (int e),.d (int 0)]) (iL k 1 axW))) (fin _ ay),axV⟩
  .refine bj ?_;refine⟨17-16,axW,16+1,axW,axW,?_,axV⟩;rw[<-ax];show _=cond (fv (s.drop k) [60]) (some [60]) _;rw[h];rfl
 .refine bj ?_;refine k6 (aAk axW) ?_;conv=>whnf
  refine⟨axV,?_⟩;conv=>whnf
  refine⟨axZ,?_⟩;conv=>whnf
  simp only[kd];refine bj ?_;refine cm (lF (s.drop k) [62]) ?_;first|refine eK (λh=> ?_) (λh=> ?_)|((refine eE (λh=> ?_) (λh=> ?_))<;>(try simp only[aAg]at h))
  .have ay:dx (s.drop k)=⟨4,[62],0,some 1,0⟩:=by
    rw[base,<-ax];show(match cond (fv (s.drop k) [62]) (some [62]) _ with|none=>eQ 50|some x=>⟨4,x,0,some x.length,0⟩)=_;simp_all
   refine bj ?_;exact⟨aAf (aAf (b:=ah.tuple [.d (.agg [int 4,.str [62],int 0,int k]),.d (int (IntKind.i64.wrap ((k:Int)+((1:Nat):Int)))),.d (int 0)]) axV (congrArg (λe=>ah.tuple [.d (.agg [int 4,.str [62],int 0,int k]),.d (int e),.d (int 0)]) (iL k 1 axW))) (fin _ ay),axV⟩
  .refine bj ?_;refine⟨17-17,axW,17+1,axW,axW,?_,axV⟩;rw[<-ax];show _=cond (fv (s.drop k) [62]) (some [62]) _;rw[h];rfl
 .have ay:dx (s.drop k)=eQ 50:=by
   rw[base,<-ax];rfl
  refine bj ?_;refine KI (aAK axW) ?_;refine bj ?_;exact⟨aAf (b:=nI k (eQ 50)) axV (fin _ ay),axV⟩
end
structure Tok where
 k:Int
 t:aw
 n:Int
 p:Nat
def Tok.d(x:Tok):D:=.agg [int x.k,.str x.t,int x.n,int x.p]
def oi(l:List Tok):D:=.list 4 (l.map Tok.d)
def ju:Nat->Nat->aw->List Tok×Nat×Int
 |0,p,_=>([],p,0)
 |n+1,p,r=>match r with
  |[]=>([],p,0)
  |c::l=>match (dx (c::l)).len with
   |none=>([],p,(dx (c::l)).e)
   |some m=>match ju n (p+m+eB false ((c::l).drop m)) (((c::l).drop m).drop (eB false ((c::l).drop m)))with
    |(ts,q,e)=>cond (decide (e=0)) (⟨(dx (c::l)).k,(dx (c::l)).t,(dx (c::l)).n,p⟩::ts,q,0) ([],q,e)
def iu(s:aw):List Tok×Nat×Int:=cond (decide ((16384:Int)<(s.length:Nat))) ([],0,31) (ju (s.length+1) (eB false s) (s.drop (eB false s)))
theorem L6{r x:aw}:∀{l:List aw},vO r l=some x->x∈l/\fv r x=true
 |[],h=>by grind[vO]
 |y::l,h=>by
  simp only[vO]at h;cases wa:fv r y with
  |true=>simp_all
  |false=>rw[wa]at h;have:=L6 h;simp_all
theorem abt{c:UInt8}{l:aw}:(∃e,dx (c::l)=eQ e/\e≠0)\/∃m,(dx (c::l)).len=some m/\(dx (c::l)).e=0/\1<=m/\m<=(c::l).length:=by
 have hw:=Aa k8 (c::l);have awf:=Aa jg (c::l);simp only[dx];cases h1:z8 c with
 |true=>
  simp only[aAg];have awg:1<=ez k8 (c::l):=by grind[ez,k8]
  cases decide ((16:Int)<(ez k8 (c::l):Nat))with
  |true=>grind
  |false=>simp_all
 |false=>
  simp only[aAw];cases sh:jg c with
  |true=>
   simp only[aAg];have awh:1<=ez jg (c::l):=by grind[ez]
   cases (decide ((c.toNat:Int)=48)&&decide ((1:Int)<(ez jg (c::l):Nat)))with
   |true=>exact .inl ⟨50,rfl,axW⟩
   |false=>
    simp only[aAw];split;all_goals grind
  |false=>
   simp only[aAw];cases av:decide ((c.toNat:Int)=34)with
   |true=>
    simp only[aAg];split
    .grind
    .rename_i m hm;have:=Gk _ _ (aAd _) m hm;split;all_goals grind
   |false=>
    simp only[aAw];split
    .grind
    .rename_i x ak;obtain⟨hm,hp⟩:=L6 ak;refine .inr ⟨_,rfl,rfl,?_,?_⟩
     .simp only[aDp,aAs,aCl,aBo]at hm;grind
     .unfold fv at hp;grind
def sG(o:List Tok)(x:List Tok×Nat×Int):List Tok×Nat×Int:=cond (decide (x.2.2=0)) (o++x.1,x.2.1,0) ([],x.2.1,x.2.2)
def xV(x:List Tok×Nat×Int):ah:=.tuple [.d (oi x.1),.d (int x.2.1),.d (int x.2.2)]
theorem ans:∀(n p:Nat) (r:aw),(ju n p r).2.2≠0->(ju n p r).1=[]
 |0,p,r,h=>rfl
 |n+1,p,[],h=>rfl
 |n+1,p,c::l,h=>by
  grind[ju]
theorem ant(s:aw):sG [] (iu s)=iu s:=by
 have aI:(iu s).2.2≠0->(iu s).1=[]:=by
  grind[iu,ans]
 unfold sG;grind
theorem anu{o:List Tok}{m p:Nat}{c:UInt8}{l:aw}{e:Int}(h:dx (c::l)=eQ e)(he:e≠0):sG o (ju (m+1) p (c::l))=([],p,e):=by
 grind[ju,eQ,sG]
theorem anv{o:List Tok}{m p k:Nat}{c:UInt8}{l:aw}(h:(dx (c::l)).len=some k):
  sG o (ju (m+1) p (c::l))=sG (o++[⟨(dx (c::l)).k,(dx (c::l)).t,(dx (c::l)).n,p⟩]) (ju m (p+k+eB false ((c::l).drop k)) (((c::l).drop k).drop (eB false ((c::l).drop k)))):=by
 conv=>lhs;unfold ju
 simp only[h,sG];cases aY:decide ((ju m (p+k+eB false ((c::l).drop k)) (((c::l).drop k).drop (eB false ((c::l).drop k)))).2.2=0)with
 |true=>simp
 |false=>
  simp only[aAw];rw[aY];rfl
section
attribute [local irreducible] Int.decLt Int.decLe Int.instDecidableEq IntKind.wrap instDecidableEqList
def abu(s:aw)(o:List Tok)(p:Int):ag:=cx [(0,.d (.str s)),(2,.own 4 (o.map Tok.d)),(3,.d (int p))] []
theorem anw(s:aw)(hs:s.length<=1073741824):aM 88 [.d (.str s)] [] (xV (iu s)) []:=by
 refine Li.fh ?_;refine bj ?_;first|refine eK (λh=> ?_) (λh=> ?_)|((refine eE (λh=> ?_) (λh=> ?_))<;>(try simp only[aAg]at h))
 .refine bj ?_;exact⟨aAf (b:=xV ([],0,31)) axV (congrArg xV (show([],0,31)=iu s by grind[iu])),axV⟩
 .have ey:iu s=ju (s.length+1) (eB false s) (s.drop (eB false s)):=by grind[iu]
  have Is:=Ab false s;have b2:=abk s 0 axW hs;rw[aDa,aA2]at b2;refine bj ?_;refine cm (b2) ?_;refine⟨λn st=>∃(p m:Nat) (o:List Tok),p<=s.length/\n=s.length-p/\s.length-p<m/\o.length<=p/\sG o (ju m p (s.drop p))=sG [] (iu s)/\st=abu s o p,s.length-eB false s,⟨eB false s,s.length+1,[],Is,rfl,axW,axX,by rw[ey],axV⟩,?_⟩;rintro _ _ ⟨p,m,o,hp,rfl,hm,bd,ax,rfl⟩;have gS:=ax.trans (ant s);refine bj ?_;first|refine eK (λh1=> ?_) (λh1=> ?_)|((refine eE (λh1=> ?_) (λh1=> ?_))<;>(try simp only[aAg]at h1))
  .have cG:p<s.length:=by grind
   have aY:=aBg cG;obtain⟨m,rfl⟩:∃m',m=m'+1:=⟨m-1,axW⟩;have L7:=anq s p cG hs;refine bj ?_;refine⟨_,_,L7,?_⟩;refine bj ?_;refine aBt (abt (c:=s[p]) (l:=s.drop (p+1))) (λak=>aAz ak (λe ak=> ?_)) (λak=>aAz ak (λk ak=> ?_))
   .rw[<-aY]at ak;have hle:=anu (o:=o) (m:=m) (p:=p) (aY▸ak.1:dx (s[p]::s.drop (p+1))=eQ e) ak.2;rw[<-aY]at hle;have ey:=gS.symm.trans hle;have he:(dx (s.drop p)).e=e:=by rw[ak.1];rfl
    refine ala (aAK axW) ?_;refine bj ?_;exact⟨aAf (aAf (b:=ah.tuple [.d (oi []),.d (int p),.d (int (dx (s.drop p)).e)]) axV (congrArg (λe=>ah.tuple [.d (oi []),.d (int p),.d (int e)]) he)) (congrArg xV ey.symm),axV⟩
   .rw[<-aY]at ak;have eh:=anv (o:=o) (m:=m) (p:=p) (aY▸ak.1:(dx (s[p]::s.drop (p+1))).len=some k);rw[<-aY,aCt,aCt]at eh;have qI:p+k<=s.length:=axZ;have awi:=abk s (p+k) qI hs;have Bv:=Ab false (s.drop (p+k));rw[aBZ]at Bv;have vz:Gp p (dx (s.drop p))=((p+k:Nat):Int):=by unfold Gp;grind
    refine alb (aAk ak.2.1) ?_;have anx:aM 116 [.d (.str s),.d (int (Gp p (dx (s.drop p))))] [] (.d (int ((p+k+eB false (s.drop (p+k)):Nat):Int))) []:=axZ;conv=>whnf
    repeat ((first|refine e7 ?_|refine e6 ?_);conv=>whnf)
    refine⟨ax7,?_⟩;refine bj ?_;refine cm (anx) ?_;refine⟨s.length-(p+k+eB false (s.drop (p+k))),axW,p+k+eB false (s.drop (p+k)),m,o++[⟨(dx (s.drop p)).k,(dx (s.drop p)).t,(dx (s.drop p)).n,p⟩],axW,rfl,axW,axZ,eh.symm.trans ax,?_⟩;exact aAf (b:=cx [(0,.d (.str s)),(2,.own 4 (o.map Tok.d++[Tok.d ⟨(dx (s.drop p)).k,(dx (s.drop p)).t,(dx (s.drop p)).n,p⟩])),(3,.d (int ((p+k+eB false (s.drop (p+k)):Nat):Int)))] []) axV (by unfold abu;rw[aAy];rfl)
  .have cG:¬p<s.length:=by grind
   have ey:iu s=(o,p,0):=by
    rw[<-gS,aBr axW];cases m<;>simp[ju,sG]
   refine bj ?_;exact⟨aAf (b:=xV (o,p,0)) axV (congrArg xV ey.symm),axV⟩
end
def dG(n:Int):Prop:= -9223372036854775808<=n/\n<=9223372036854775807
def xW(t:Tok):Prop:=t.t.length<=16384/\dG t.n
theorem dG.zero:dG 0:=by grind[dG]
theorem anz{m t:aw}(h:p6 m=some t):t.length<=m.length:=by
 grind[p6,Gn]
theorem anA{c:UInt8}{l:aw}(aI:(c::l).length<=16384):(dx (c::l)).t.length<=16384/\dG (dx (c::l)).n:=by
 simp only[dx];cases h1:z8 c with
 |true=>
  simp only[aAg];cases decide ((16:Int)<(ez k8 (c::l):Nat))with
  |true=>exact⟨aAa _,dG.zero⟩
  |false=>exact⟨axZ,dG.zero⟩
 |false=>
  simp only[aAw];cases sh:jg c with
  |true=>
   simp only[aAg];cases (decide ((c.toNat:Int)=48)&&decide ((1:Int)<(ez jg (c::l):Nat)))with
   |true=>exact⟨aAa _,dG.zero⟩
   |false=>
    simp only[aAw];split
    .rename_i h;exact⟨aAa _,Lib.atoiAll_bounds h⟩
    .exact⟨aAa _,dG.zero⟩
  |false=>
   simp only[aAw];cases av:decide ((c.toNat:Int)=34)with
   |true=>
    simp only[aAg];split
    .exact⟨aAa _,dG.zero⟩
    .split
     .exact⟨aAa _,dG.zero⟩
     .rename_i h;have:=anz h;grind[dG.zero]
   |false=>
    simp only[aAw];split
    .exact⟨aAa _,dG.zero⟩
    .rename_i x ak;obtain⟨hm,_⟩:=L6 ak;refine⟨?_,dG.zero⟩;simp only[aDp,aAs,aCl,aBo]at hm;rcases hm with rfl|rfl|rfl|rfl|rfl|rfl|rfl|rfl|rfl|rfl|rfl|rfl|rfl|rfl|rfl|rfl|rfl|rfl<;>simp
theorem abv:∀(n p:Nat) (r:aw),r.length<=16384->(∀t∈(ju n p r).1,xW t)/\(ju n p r).1.length<=r.length
 |0,p,r,_=>⟨by simp[ju],aAa _⟩
 |n+1,p,[],_=>⟨by simp[ju],aAa _⟩
 |n+1,p,c::l,aI=>by
  have aC:=anA aI;have aq:=abt (c:=c) (l:=l);unfold ju;simp only[];cases hm:(dx (c::l)).len with
  |none=>exact⟨axX,aAa _⟩
  |some m=>
   have Gq:1<=m/\m<=(c::l).length:=by
    rcases aq with⟨e,he,_⟩|⟨m',h1,_,sh,av⟩
    .rw[he]at hm;cases hm
    simp_all
   have hlen:(((c::l).drop m).drop (eB false ((c::l).drop m))).length+1<=(c::l).length:=axZ;have ih:=abv n (p+m+eB false ((c::l).drop m)) (((c::l).drop m).drop (eB false ((c::l).drop m))) axW;simp only[];generalize ju n (p+m+eB false ((c::l).drop m)) (((c::l).drop m).drop (eB false ((c::l).drop m)))=y at ih⊢;obtain⟨ts,q,e⟩:=y;simp only[];cases decide (e=0)with
   |true=>
    refine⟨λt aE=> ?_,aAZ (Nat.succ_le_succ ih.2) hlen⟩;simp only[aAg,aAs]at aE;rcases aE with rfl|aE
    .exact aC
    simp_all
   |false=>simp
theorem L8(s:aw):(∀t∈(iu s).1,xW t)/\(iu s).1.length<=16384:=by
 unfold iu;cases h:decide ((16384:Int)<(s.length:Nat))with
 |true=>simp
 |false=>
  have aI:s.length<=16384:=axZ;have:=abv (s.length+1) (eB false s) (s.drop (eB false s)) axZ;grind
theorem anB(c:UInt8)(l:aw)(h:(dx (c::l)).k=1):(dx (c::l)).t≠[]:=by
 simp only[dx]at h⊢;cases h1:z8 c with
 |true=>
  have aW:1<=ez k8 (c::l):=by grind[ez,k8]
  rw[h1]at h;simp only[aAg]at h⊢;cases av:decide ((16:Int)<(ez k8 (c::l):Nat))with
  |true=>rw[av]at h;simp[eQ]at h
  |false=>
   show List.take _ _≠[];intro e;have:=congrArg List.length e;simp at this;omega
 |false=>
  rw[h1]at h;simp only[aAw]at h;cases sh:jg c with
  |true=>
   rw[sh]at h;simp only[aAg]at h;cases av:(decide ((c.toNat:Int)=48)&&decide ((1:Int)<(ez jg (c::l):Nat)))with
   |true=>rw[av]at h;simp[eQ]at h
   |false=>rw[av]at h;simp only[aAw]at h;split at h<;>simp[eQ]at h
  |false=>
   rw[sh]at h;simp only[aAw]at h;cases av:decide ((c.toNat:Int)=34)with
   |true=>
    rw[av]at h;simp only[aAg]at h;split at h
    .simp[eQ]at h
    .split at h<;>simp[eQ]at h
   |false=>rw[av]at h;simp only[aAw]at h;split at h<;>simp[eQ]at h
theorem abw:∀(n p:Nat) (r:aw),∀t∈(ju n p r).1,t.k=1->t.t≠[]
 |0,p,r=>by simp[ju]
 |n+1,p,[]=>by simp[ju]
 |n+1,p,c::l=>by
  have:=anB c l;have:=λm=>abw n (p+m+eB false ((c::l).drop m)) (((c::l).drop m).drop (eB false ((c::l).drop m)));unfold ju;grind
theorem anC(s:aw):∀t∈(iu s).1,t.k=1->t.t≠[]:=by
 have:=abw (s.length+1) (eB false s) (s.drop (eB false s));grind[iu]
theorem anD{s:aw}(h:16384<s.length):iu s=([],0,31):=by
 grind[iu]
section
attribute [local irreducible] Int.decLt Int.decLe Int.instDecidableEq IntKind.wrap instDecidableEqList
theorem anE(s:aw):aM 88 [.d (.str s)] [] (xV (iu s)) []:=by
 by_cases h1:s.length<=1073741824
 .grind[anw]
 .rw[anD axW];have h:decide ((16384:Int)<(s.length:Nat))=true:=aAk axW;refine Li.fh ?_;refine bj ?_;exact⟨axV,axV⟩
end
end Go.Proofs.YthffhbakgmemaaaGreatDoor
