/- Part of many_said. -/
import Derived.Test.YtdfonihgkhbpcaaGreatDoorD
set_option maxRecDepth 100000
set_option maxHeartbeats 8000000
set_option linter.unusedSimpArgs false
set_option linter.unusedVariables false
namespace Go.Proofs.YtdfonihgkhbpcaaGreatDoor
open Go Go.aG
attribute [local irreducible] bD
abbrev ax:=List UInt8
abbrev int(n:Int):D:=.int .i64 n
def Hg(c:UInt8):Bool:=decide (97<=c.toNat)&&decide (c.toNat<=122)
def Hh(c:UInt8):Bool:=decide (48<=c.toNat)&&decide (c.toNat<=57)
def Dz(c:UInt8):Bool:=Hg c||Hh c||decide (c.toNat=95)
def MU(c:UInt8):Bool:=!decide (c.toNat=10)
theorem Hi:hP a1 gl (rK ext tab gl 1000 60):=uT MF uZ 60
theorem aot(c:UInt8):aL 105 [.d (fO c)] [] (.d (.bool (Hg c))) []:=GI Hi az5 c
theorem acC(c:UInt8):aL 107 [.d (fO c)] [] (.d (.bool (Hh c))) []:=GI Hi az5 c
theorem aou(c:UInt8):aL 106 [.d (fO c)] [] (.d (.bool (Dz c))) []:=GI Hi az5 c
theorem aov(c:UInt8):aL 104 [.d (fO c)] [] (.d (.bool (MU c))) []:=GI Hi az5 c
def aGI(p:UInt8->Bool):ax->Nat
 |[]=>0
 |c::l=>cond (p c) (aGI p l+1) 0
theorem aG9(p:UInt8->Bool):∀l:ax,aGI p l<=l.length
 |[]=>aCw _
 |c::l=>by
  simp only[aGI,aCU];cases p c with
  |true=>simp_all[aG9]
  |false=>simp
theorem aIG{p:UInt8->Bool}{s:ax}{i:Nat}(h:i<s.length):aGI p (s.drop i)=cond (p s[i]) (aGI p (s.drop (i+1))+1) 0:=by
 rw[aEK h];rfl
theorem aGR{i:Nat}(h:i<4611686018427387904):IntKind.i64.wrap ((i:Int)+1)=((i+1:Nat):Int):=by
 grind[IntKind.wrap,IntKind.bits]
theorem getD_at{s:ax}{i:Nat}(h:i<s.length):s.getD (Int.toNat (i:Int)) 0=s[i]:=az8
section
attribute [local irreducible] Int.decLt Int.decLe Int.instDecidableEq IntKind.wrap instDecidableEqList
def aIH(s:ax)(g:Nat)(i:Int):ag:=cA [(0,.d (.str s)),(1,.d (int i)),(2,.d (.fn g))] []
theorem aHI(s:ax)(k:Nat)(g:Nat)(p:UInt8->Bool)(e:∀c,aL g [.d (fO c)] [] (.d (.bool (p c))) [])(f:k<=s.length)(o:s.length<=1073741824):
  aL 103 [.d (.str s),.d (int k),.d (.fn g)] [] (.d (int ((k+aGI p (s.drop k):Nat):Int))) []:=by
 refine WL.hB ?_;conv=>whnf
 refine⟨az5,?_⟩;refine⟨λn j=>∃i:Nat,i<=s.length/\n=s.length-i/\i+aGI p (s.drop i)=k+aGI p (s.drop k)/\j=aIH s g i,s.length-k,⟨k,f,rfl,rfl,az5⟩,?_⟩;rintro _ _ ⟨i,m,rfl,l,rfl⟩;refine db ?_;first|refine uU (λh=> ?_) (λh=> ?_)|((refine ta (λh=> ?_) (λh=> ?_))<;>(try simp only[aC0]at h))
 .have d:i<s.length:=by simp_all
  conv=>whnf
  repeat ((first|refine qo ?_|refine qn ?_);conv=>whnf)
  refine⟨az8,?_⟩;rw[getD_at d];refine db ?_;refine⟨_,_,e s[i],?_⟩;refine db ?_;first|refine uU (λa=> ?_) (λa=> ?_)|((refine ta (λa=> ?_) (λa=> ?_))<;>(try simp only[aC0]at a))
  .refine db ?_;have b:aGI p (s.drop i)=aGI p (s.drop (i+1))+1:=by grind[aIG]
   exact⟨s.length-(i+1),az6,i+1,az6,rfl,az6,congrArg (aIH s g) (aGR az6)⟩
  .refine db ?_;have b:aGI p (s.drop i)=0:=by grind[aIG]
   refine⟨congrArg (λn:Nat=>ah.d (int (n:Int))) (show i=k+aGI p (s.drop k)by omega),az5⟩
 .refine db ?_;have d:¬i<s.length:=az8;have b:aGI p (s.drop i)=0:=by rw[aF0 az6];rfl
  refine⟨congrArg (λn:Nat=>ah.d (int (n:Int))) (show i=k+aGI p (s.drop k)by omega),az5⟩
end
def aGZ(c:UInt8):Bool:=decide ((c.toNat:Int)=32)||decide ((c.toNat:Int)=9)||decide ((c.toNat:Int)=10)
def aGL:Bool->ax->Nat
 |_,[]=>0
 |true,c::l=>cond (MU c) (aGL true l+1) (aGL false l+1)
 |false,c::l=>cond (aGZ c) (aGL false l+1) (cond (decide ((c.toNat:Int)=35)) (aGL true l+1) 0)
theorem aG':∀(b:Bool) (l:ax),aGL b l<=l.length
 |b,[]=>by cases b<;>exact aCw _
 |true,c::l=>by
  have d:=aG' true l;have a:=aG' false l;simp only[aGL,aCU];grind
 |false,c::l=>by
  have d:=aG' true l;have a:=aG' false l;simp only[aGL,aCU];grind
theorem aII:∀l:ax,aGL true l=aGI MU l+aGL false (l.drop (aGI MU l))
 |[]=>rfl
 |c::l=>by
  simp only[aGL,aGI];cases a:MU c with
  |true=>
   simp only[aC0,aFZ];rw[aII l];omega
  |false=>
   simp_all[aGL,aGZ,MU]
theorem aQ8{c:UInt8}{l:ax}(h:aGZ c=false)(a:(c.toNat:Int)=35):aGL false (c::l)=aGI MU (c::l)+aGL false ((c::l).drop (aGI MU (c::l)))/\1<=aGI MU (c::l):=by
 have b:MU c=true:=by
  grind[MU]
 simp only[aGL,h,a,decide_true,aC0,aDy,aGI,b,aFZ];grind[aII]
section
attribute [local irreducible] Int.decLt Int.decLe Int.instDecidableEq IntKind.wrap instDecidableEqList
def aHs(s:ax)(i:Int):ag:=cA [(0,.d (.str s)),(1,.d (int i))] []
theorem aIJ(s:ax)(k:Nat)(v:k<=s.length)(u:s.length<=1073741824):aL 49 [.d (.str s),.d (int k)] [] (.d (int ((k+aGL false (s.drop k):Nat):Int))) []:=by
 refine Uz.hB ?_;conv=>whnf
 refine⟨az5,?_⟩;refine⟨λn w=>∃i:Nat,i<=s.length/\n=s.length-i/\i+aGL false (s.drop i)=k+aGL false (s.drop k)/\w=aHs s i,s.length-k,⟨k,v,rfl,rfl,az5⟩,?_⟩;rintro _ _ ⟨i,r,rfl,x,rfl⟩;refine db ?_;first|refine uU (λh=> ?_) (λh=> ?_)|((refine ta (λh=> ?_) (λh=> ?_))<;>(try simp only[aC0]at h))
 .have g:i<s.length:=by simp_all
  have f:=aEK g;conv=>whnf
  repeat ((first|refine qo ?_|refine qn ?_);conv=>whnf)
  refine⟨az9,?_⟩;rw[getD_at g];have step1:aGZ s[i]=true->∃m,m<s.length-i/\∃j:Nat,j<=s.length/\m=s.length-j/\j+aGL false (s.drop j)=k+aGL false (s.drop k)/\aHs s (IntKind.i64.wrap ((i:Int)+1))=aHs s j:=by
   intro c;have:aGL false (s.drop i)=aGL false (s.drop (i+1))+1:=by rw[f];simp only[aGL,c,aC0]
   exact⟨s.length-(i+1),az6,i+1,az6,rfl,az6,congrArg (aHs s) (aGR az6)⟩
  refine db ?_;first|refine uU (λe=> ?_) (λe=> ?_)|((refine ta (λe=> ?_) (λe=> ?_))<;>(try simp only[aC0]at e))
  .refine db ?_;exact step1 (by grind[aGZ])
  .refine db ?_;first|refine uU (λb=> ?_) (λb=> ?_)|((refine ta (λb=> ?_) (λb=> ?_))<;>(try simp only[aC0]at b))
   .refine db ?_;exact step1 (by grind[aGZ])
   .refine db ?_;first|refine uU (λd=> ?_) (λd=> ?_)|((refine ta (λd=> ?_) (λd=> ?_))<;>(try simp only[aC0]at d))
    .refine db ?_;exact step1 (by grind[aGZ])
    .have c:aGZ s[i]=false:=by grind[aGZ]
     refine db ?_;first|refine uU (λa=> ?_) (λa=> ?_)|((refine ta (λa=> ?_) (λa=> ?_))<;>(try simp only[aC0]at a))
     .refine db ?_;have q:=aHI s i 104 MU aov r u;refine⟨_,_,q,?_⟩;refine db ?_;have p:((s[i]).toNat:Int)=35:=of_decide_eq_true a;have o:=aQ8 (l:=s.drop (i+1)) c p;rw[<-f,aFe]at o;have t:=aG9 MU (s.drop i);rw[aDQ]at t;exact⟨s.length-(i+aGI MU (s.drop i)),az6,i+aGI MU (s.drop i),az6,rfl,az6,az5⟩
     .refine db ?_;have:aGL false (s.drop i)=0:=by rw[f];simp only[aGL,c,a,aDy]
      refine⟨congrArg (λn:Nat=>ah.d (int (n:Int))) (show i=k+aGL false (s.drop k)by omega),az5⟩
 .refine db ?_;have g:¬i<s.length:=az8;have:aGL false (s.drop i)=0:=by rw[aF0 az6];rfl
  refine⟨congrArg (λn:Nat=>ah.d (int (n:Int))) (show i=k+aGL false (s.drop k)by omega),az5⟩
end
def aGO:ax->Option Nat
 |[]=>none
 |c::l=>cond (decide ((c.toNat:Int)=92)) (match l with
   |[]=>none
   |_::a=>(aGO a).map (·+2))
  (cond (decide ((c.toNat:Int)=34)) (some 1) ((aGO l).map (·+1)))
theorem aHt:∀(n:Nat) (l:ax),l.length<=n->∀m,aGO l=some m->1<=m/\m<=l.length:=by
 intro n;induction n with
 |zero=>
  grind[aGO]
 |succ n ih=>
  intro l b m h;cases l with
  |nil=>grind
  |cons c l=>
   unfold aGO at h;cases h1:decide ((c.toNat:Int)=92)with
   |true=>
    rw[h1]at h;simp only[aC0]at h;grind[Option.map_eq_some_iff]
   |false=>
    rw[h1]at h;simp only[aDy]at h;cases a:decide ((c.toNat:Int)=34)with
    |true=>simp_all
    |false=>
     rw[a]at h;simp only[aDy,aDr]at h;grind
def aG2(k:Nat):Option Nat->Int
 |some n=>((k+n:Nat):Int)
 |none=> -1
theorem aIK(k m:Nat)(o:Option Nat):aG2 k (o.map (·+m))=aG2 (k+m) o:=by
 cases o with
 |none=>rfl
 |some n=>grind[aG2]
section
attribute [local irreducible] Int.decLt Int.decLe Int.instDecidableEq IntKind.wrap instDecidableEqList
def aHu(s:ax)(i:Int):ag:=cA [(0,.d (.str s)),(5,.d (int i))] []
theorem aQ9(s:ax)(k:Nat)(l:k<s.length)(j:s.length<=1073741824):aL 109 [.d (.str s),.d (int k)] [] (.d (int (aG2 (k+1) (aGO (s.drop (k+1)))))) []:=by
 refine Mu.hB ?_;refine db ?_;refine⟨λn f=>∃i:Nat,i<=s.length+1/\n=s.length+1-i/\aG2 i (aGO (s.drop i))=aG2 (k+1) (aGO (s.drop (k+1)))/\f=aHu s i,s.length-k,⟨k+1,az6,az6,rfl,congrArg (aHu s) (aGR az6)⟩,?_⟩;rintro _ _ ⟨i,g,rfl,c,rfl⟩;refine db ?_;first|refine uU (λh=> ?_) (λh=> ?_)|((refine ta (λh=> ?_) (λh=> ?_))<;>(try simp only[aC0]at h))
 .have e:i<s.length:=by simp_all
  have d:=aEK e;conv=>whnf
  repeat ((first|refine qo ?_|refine qn ?_);conv=>whnf)
  refine⟨az9,?_⟩;rw[getD_at e];refine db ?_;first|refine uU (λb=> ?_) (λb=> ?_)|((refine ta (λb=> ?_) (λb=> ?_))<;>(try simp only[aC0]at b))
  .refine db ?_;refine⟨s.length+1-(i+2),az6,i+2,az6,rfl,?_,?_⟩
   .rw[<-c,d];conv=>rhs;unfold aGO
    rw[b];simp only[aC0];by_cases a:i+1<s.length
    .rw[aEK a];simp only;rw[aIK]
    .rw[aF0 az6,aF0 az6];rfl
   .exact congrArg (aHu s) ((congrArg (λn=>IntKind.i64.wrap (n+1)) (aGR (show i<4611686018427387904 by omega))).trans (aGR (show i+1<4611686018427387904 by omega)))
  .refine db ?_;first|refine uU (λa=> ?_) (λa=> ?_)|((refine ta (λa=> ?_) (λa=> ?_))<;>(try simp only[aC0]at a))
   .refine db ?_;refine⟨?_,az5⟩;refine aCO (congrArg (λn=>ah.d (int n)) (aGR (show i<4611686018427387904 by omega))) (congrArg (λn=>ah.d (int n)) ?_);rw[<-c,d];unfold aGO;rw[b,a];rfl
   .refine db ?_;refine⟨s.length+1-(i+1),az6,i+1,az6,rfl,?_,congrArg (aHu s) (aGR az6)⟩;rw[<-c,d];conv=>rhs;unfold aGO
    rw[b,a];simp only[aDy];rw[aIK]
 .refine db ?_;have e:¬i<s.length:=az8;refine⟨congrArg (λn=>ah.d (int n)) ?_,az5⟩;rw[<-c,aF0 az6];rfl
end
theorem MV:∀l:ax,nJ (l.map fO)=some l
 |[]=>rfl
 |c::t=>by
  show(match nJ (t.map fO)with|some s=>some (UInt8.ofNat (Int.toNat (c.toNat:Int))::s)|none=>none)=_;rw[MV t];simp
theorem getD_map{a:Type}{f:a->D}{d:D}{l:List a}{i:Nat}(h:i<l.length):(l.map f).getD (Int.toNat (i:Int)) d=f l[i]:=az8
def aGP:Bool->ax->ax
 |_,[]=>[]
 |e,c::l=>cond (decide ((c.toNat:Int)=92)&&!e) (aGP true l) (c::aGP false l)
def aGS:ax->ax
 |[]=>[]
 |c::l=>cond (decide ((c.toNat:Int)=34)||decide ((c.toNat:Int)=92)) (92::c::aGS l) (c::aGS l)
theorem aQ':∀l:ax,(aGS l).length<=2*l.length
 |[]=>aCw _
 |c::l=>by
  have:=aQ' l;simp only[aGS];grind
def aGW(c:UInt8):Bool:=!(decide ((c.toNat:Int)<32)||decide ((126:Int)<c.toNat))
def aHa(s:ax):Bool:=s.all aGW&&decide ((s.length:Int)<=64)
section
attribute [local irreducible] Int.decLt Int.decLe Int.instDecidableEq IntKind.wrap instDecidableEqList
def bl(s:ax):D:=.list 1 (s.map fO)
def aG7(s o:ax)(e:Bool)(n i:Int):ag:=cA [(3,.own 1 (o.map fO)),(4,.d (.bool e)),(8,.d (bl s)),(9,.d (int n)),(10,.d (int i))] []
theorem aRa(s:ax)(m:s.length<=1073741824):aL 152 [.d (.str s)] [] (.d (.str (aGP false s))) []:=by
 refine Mv.hB ?_;refine db ?_;refine⟨λn g=>∃(i:Nat) (o:ax) (e:Bool),i<=s.length/\n=s.length-i/\o.length<=i/\o++aGP e (s.drop i)=aGP false s/\g=aG7 s o e s.length i,s.length,⟨0,[],false,az6,rfl,aCw _,rfl,?_⟩,?_⟩
 .exact congrArg (λk=>aG7 s [] false k 0) az7
 rintro _ _ ⟨i,o,e,l,rfl,j,c,rfl⟩;refine db ?_;first|refine uU (λh=> ?_) (λh=> ?_)|((refine ta (λh=> ?_) (λh=> ?_))<;>(try simp only[aC0]at h))
 .have b:i<s.length:=by simp_all
  have d:=aEK b;conv=>whnf
  repeat ((first|refine qo ?_|refine qn ?_);conv=>whnf)
  refine⟨aA9,?_⟩;rw[getD_map b];refine db ?_;first|refine uU (λa=> ?_) (λa=> ?_)|((refine ta (λa=> ?_) (λa=> ?_))<;>(try simp only[aC0]at a))
  .refine db ?_;cases e with
   |true=>
    conv=>whnf
    repeat ((first|refine qo ?_|refine qn ?_);conv=>whnf)
    refine⟨aA9,?_⟩;refine db ?_;refine⟨s.length-(i+1),az6,i+1,o++[s[i]],false,az6,rfl,az8,?_,?_⟩
    .grind[aGP]
    .refine aCO ?_ (congrArg (aG7 s (o++[s[i]]) false s.length) (aGR (show i<4611686018427387904 by omega)));unfold aG7;rw[aCR];rfl
   |false=>
    refine db ?_;refine⟨s.length-(i+1),az6,i+1,o,true,az6,rfl,az6,?_,congrArg (aG7 s o true s.length) (aGR az6)⟩;rw[<-c,d];simp_all[aGP]
  .conv=>whnf
   repeat ((first|refine qo ?_|refine qn ?_);conv=>whnf)
   refine⟨aA9,?_⟩;refine db ?_;refine⟨s.length-(i+1),az6,i+1,o++[s[i]],false,az6,rfl,az9,?_,?_⟩
   .rw[<-c,d];simp only[aGP,a,Bool.false_and,aDy,aDK,List.singleton_append]
   .refine aCO ?_ (congrArg (aG7 s (o++[s[i]]) false s.length) (aGR (show i<4611686018427387904 by omega)));unfold aG7;rw[aCR];rfl
 .conv=>whnf
  repeat ((first|refine qo ?_|refine qn ?_);conv=>whnf)
  have b:¬i<s.length:=az8;have f:o=aGP false s:=by grind[aGP]
  simp only[MV];refine db ?_;exact⟨by rw[<-f];rfl,az5⟩
theorem MZ(s:ax):aL 67 [.d (.str s)] [] (.d (.agg [int 2,int 0,.str s])) []:=by
 refine aav.hB ?_;refine db ?_;exact⟨az5,az5⟩
theorem M0:aL 151 [] [] (.d (.agg [int 0,int 0,.str []])) []:=by
 refine W7.hB ?_;refine db ?_;exact⟨az5,az5⟩
theorem Hk(n:Int):aL 153 [.d (int n)] [] (.d (.agg [int 1,int n,.str []])) []:=by
 refine Mk.hB ?_;refine db ?_;exact⟨az5,az5⟩
def aHK(s:ax)(n i:Int):ag:=cA [(0,.d (.str s)),(6,.d (bl s)),(7,.d (int n)),(8,.d (int i))] []
theorem aRb(s:ax)(m:s.length<=1073741824):aL 169 [.d (.str s)] [] (.d (.bool (aHa s))) []:=by
 refine Xc.hB ?_;refine db ?_;refine⟨λn f=>∃i:Nat,i<=s.length/\n=s.length-i/\(s.drop i).all aGW=s.all aGW/\f=aHK s s.length i,s.length,⟨0,az6,rfl,rfl,congrArg (λk=>aHK s k 0) az7⟩,?_⟩;rintro _ _ ⟨i,l,rfl,d,rfl⟩;refine db ?_;first|refine uU (λh=> ?_) (λh=> ?_)|((refine ta (λh=> ?_) (λh=> ?_))<;>(try simp only[aC0]at h))
 .have c:i<s.length:=by simp_all
  have j:=aEK c;conv=>whnf
  repeat ((first|refine qo ?_|refine qn ?_);conv=>whnf)
  refine⟨aA9,?_⟩;rw[getD_map c];refine db ?_;have e:aGW s[i]=false->ah.d (D.bool false)=ah.d (D.bool (aHa s)):=by
   grind[aHa]
  have g:aGW s[i]=true->(s.drop (i+1)).all aGW=s.all aGW:=az9;first|refine uU (λb=> ?_) (λb=> ?_)|((refine ta (λb=> ?_) (λb=> ?_))<;>(try simp only[aC0]at b))
  .refine db ?_;exact⟨e (by grind[aGW]),az5⟩
  .refine db ?_;first|refine uU (λa=> ?_) (λa=> ?_)|((refine ta (λa=> ?_) (λa=> ?_))<;>(try simp only[aC0]at a))
   .refine db ?_;exact⟨e (by grind[aGW]),az5⟩
   .refine db ?_;exact⟨s.length-(i+1),az6,i+1,az6,rfl,g (by grind[aGW]),congrArg (aHK s s.length) (aGR az6)⟩
 .refine db ?_;have c:¬i<s.length:=az8;rw[aF0 az6]at d;refine⟨?_,az5⟩;unfold aHa;rw[<-d];rfl
def aHb(s o:ax)(n i:Int):ag:=cA [(3,.own 1 (o.map fO)),(8,.d (bl s)),(9,.d (int n)),(10,.d (int i))] []
theorem aRc(s:ax)(v:s.length<=1073741824):aL 123 [.d (.str s)] [] (.d (.str (34::(aGS s++[34])))) []:=by
 refine WU.hB ?_;refine db ?_;refine⟨λn r=>∃(i:Nat) (o:ax),i<=s.length/\n=s.length-i/\o.length<=2*i+1/\o++aGS (s.drop i)=34::aGS s/\r=aHb s o s.length i,s.length,⟨0,[34],az6,rfl,aCw _,rfl,congrArg (λk=>aHb s [34] k 0) az7⟩,?_⟩;rintro _ _ ⟨i,o,u,rfl,t,f,rfl⟩;have j:∀(a b:ax),cA [(3,.own 1 ((o++a).map fO++b.map fO)),(8,.d (bl s)),(9,.d (int s.length)),(10,.d (int ((i+1:Nat):Int)))] []=aHb s (o++a++b) s.length ((i+1:Nat):Int):=by
  grind[aHb]
 refine db ?_;first|refine uU (λh=> ?_) (λh=> ?_)|((refine ta (λh=> ?_) (λh=> ?_))<;>(try simp only[aC0]at h))
 .have e:i<s.length:=by simp_all
  have l:=aEK e;conv=>whnf
  repeat ((first|refine qo ?_|refine qn ?_);conv=>whnf)
  refine⟨aA9,?_⟩;rw[getD_map e];refine db ?_;have g:(decide (((s[i]).toNat:Int)=34)||decide (((s[i]).toNat:Int)=92))=true->(o++[92]++[s[i]])++aGS (s.drop (i+1))=34::aGS s:=by
   intro p;rw[<-f,l];simp only[aGS,p,aC0,aDK,aEJ,aDL]
  first|refine uU (λd=> ?_) (λd=> ?_)|((refine ta (λd=> ?_) (λd=> ?_))<;>(try simp only[aC0]at d))
  .conv=>whnf
   repeat ((first|refine qo ?_|refine qn ?_);conv=>whnf)
   refine⟨aA9,?_⟩;conv=>whnf
   repeat ((first|refine qo ?_|refine qn ?_);conv=>whnf)
   refine⟨aA9,?_⟩;refine db ?_;refine⟨s.length-(i+1),az6,i+1,o++[92]++[s[i]],az6,rfl,az9,g az9,?_⟩;refine aCO ?_ (aCO (congrArg (λk=>cA [(3,.own 1 ((o++[92]).map fO++[s[i]].map fO)),(8,.d (bl s)),(9,.d (int s.length)),(10,.d (int k))] []) (aGR (show i<4611686018427387904 by omega))) (j [92] [s[i]]));rw[aCR];rfl
  .refine db ?_;first|refine uU (λc=> ?_) (λc=> ?_)|((refine ta (λc=> ?_) (λc=> ?_))<;>(try simp only[aC0]at c))
   .conv=>whnf
    repeat ((first|refine qo ?_|refine qn ?_);conv=>whnf)
    refine⟨aA9,?_⟩;conv=>whnf
    repeat ((first|refine qo ?_|refine qn ?_);conv=>whnf)
    refine⟨aA9,?_⟩;refine db ?_;refine⟨s.length-(i+1),az6,i+1,o++[92]++[s[i]],az6,rfl,az9,g az9,?_⟩;refine aCO ?_ (aCO (congrArg (λk=>cA [(3,.own 1 ((o++[92]).map fO++[s[i]].map fO)),(8,.d (bl s)),(9,.d (int s.length)),(10,.d (int k))] []) (aGR (show i<4611686018427387904 by omega))) (j [92] [s[i]]));rw[aCR];rfl
   .conv=>whnf
    repeat ((first|refine qo ?_|refine qn ?_);conv=>whnf)
    refine⟨aA9,?_⟩;refine db ?_;refine⟨s.length-(i+1),az6,i+1,o++[s[i]],az6,rfl,az9,?_,?_⟩
    .rw[<-f,l];simp only[aGS,d,c,Bool.or_self,aDy,aDK,List.singleton_append]
    .refine aCO ?_ (congrArg (aHb s (o++[s[i]]) s.length) (aGR (show i<4611686018427387904 by omega)));unfold aHb;rw[aCR];rfl
 .conv=>whnf
  repeat ((first|refine qo ?_|refine qn ?_);conv=>whnf)
  refine⟨aA9,?_⟩;conv=>whnf
  repeat ((first|refine qo ?_|refine qn ?_);conv=>whnf)
  have e:¬i<s.length:=az8;have m:o=34::aGS s:=by grind[aGS]
  have q:nJ (o.map fO++[.int .u8 34])=some (34::(aGS s++[34])):=by
   have:=MV (o++[34]);rw[aCR,m]at this;rw[m];exact this
  simp only[q];refine db ?_;exact⟨az5,az5⟩
end
def oE(k n:Int)(t:ax):D:=.agg [int k,int n,.str t]
theorem aRd(s:ax)(a:s.length<=1073741824):aL 122 [.d (oE 2 0 s)] [] (.d (.bool (aHa s))) []:=by
 refine aaR.hB ?_;refine db ?_;refine⟨_,_,aRb s a,?_⟩;refine db ?_;exact⟨az5,az5⟩
def aHv(s:ax):ax:=cond (aHa s) (34::(aGS s++[34])) []
theorem aRe(s:ax)(a:s.length<=1073741824):aL 68 [.d (oE 2 0 s)] [] (.d (.str (aHv s))) []:=by
 refine aax.hB ?_;refine db ?_;refine⟨_,_,aRd s a,?_⟩;refine db ?_;refine ayb (λh=> ?_) (λh=> ?_)
 .refine db ?_;exact⟨by unfold aHv;rw[h];rfl,az5⟩
 .refine db ?_;refine⟨_,_,aRc s a,?_⟩;refine db ?_;exact⟨by unfold aHv;rw[h];rfl,az5⟩
theorem aHL:∀(e:Bool) (l:ax),(aGP e l).length<=l.length
 |e,[]=>by cases e<;>exact aCw _
 |e,c::l=>by
  have b:=aHL true l;have a:=aHL false l;simp only[aGP];grind
def aGX(m:ax):Option ax:=cond (decide (aHv (aGP false m)=34::(m++[34]))) (some (aGP false m)) none
section
attribute [local irreducible] instDecidableEqList
theorem aRf(m:ax)(i:m.length<=1073741824):aL 110 [.d (.str (34::(m++[34])))] [] (match aGX m with
  |some t=>.tuple [.d (oE 2 0 t),.d (int 0)]
  |none=>.tuple [.d (oE 0 0 []),.d (int 20)]) []:=by
 have j:=aHL false m;refine US.hB ?_;refine db ?_;refine⟨_,_,M0,?_⟩;refine db ?_;conv=>whnf
 repeat ((first|refine qo ?_|refine qn ?_);conv=>whnf)
 have f:((34::(m++[34]):ax).length:Int)=((m.length+2:Nat):Int):=az9;have c:IntKind.i64.wrap (((34::(m++[34]):ax).length:Int)-1)=((m.length+1:Nat):Int):=by
  grind[IntKind.wrap,IntKind.bits]
 have d:(34::(m++[34]):ax).getD (Int.toNat ((m.length+1:Nat):Int)) 0=34:=az7;have g:decide ((1:Int)<((34::(m++[34]):ax).length:Int))=true:=aCI az6;refine ax7 az7 ?_;conv=>whnf
 repeat ((first|refine qo ?_|refine qn ?_);conv=>whnf)
 refine⟨az9,?_⟩;conv=>whnf
 repeat ((first|refine qo ?_|refine qn ?_);conv=>whnf)
 simp only[c,d];refine⟨az9,?_⟩;conv=>whnf
 repeat ((first|refine qo ?_|refine qn ?_);conv=>whnf)
 have e:((34::(m++[34]):ax).drop (Int.toNat 1)).take (Int.toNat ((m.length+1:Nat):Int)-Int.toNat 1)=m:=az7;simp only[c];refine⟨az9,?_⟩;conv=>whnf
 repeat ((first|refine qo ?_|refine qn ?_);conv=>whnf)
 simp only[e];refine c6 (aRa m az6) ?_;refine c6 (MZ (aGP false m)) ?_;refine c6 (aRe (aGP false m) az6) ?_;refine ayb (λh=> ?_) (λh=> ?_)
 .have a:aGX m=none:=by grind[aGX]
  refine db ?_;exact⟨aCO (b:=ah.tuple [.d (oE 0 0 []),.d (int 20)]) az5 (by rw[a]),az5⟩
 .have a:aGX m=some (aGP false m):=by grind[aGX]
  refine db ?_;exact⟨aCO (b:=ah.tuple [.d (oE 2 0 (aGP false m)),.d (int 0)]) az5 (by rw[a]),az5⟩
end
theorem aRg(l:ax)(a:l.length<=1073741824):aL 108 [.d (.str l)] [] (match Lib.atoiAll l with
  |.ok v=>.tuple [.d (int v),.d .iK]
  |.range=>.tuple [.d (int (Lib.atoiSat l)),.d .ix]
  |Lib.NumEnd.syntax=>.tuple [.d (int 0),.d .ix]) []:=by
 cases h:Lib.atoiAll l with
 |ok v=>grind[TM,yh.ca,exts,yh.a]
 |range=>exact TO exts.ca exts.GF az6 h
 |_=>exact TP exts.ca exts.GF az6 h
theorem aoE(l:ax)(a:l.length<=1073741824):(∃v,Lib.atoiAll l=.ok v/\aL 108 [.d (.str l)] [] (.tuple [.d (int v),.d .iK]) [])\/
  ∃n,(∀v,Lib.atoiAll l≠.ok v)/\aL 108 [.d (.str l)] [] (.tuple [.d (int n),.d .ix]) []:=by
 grind[aRg]
def aGK(a b:ax):Bool:=decide ((b.length:Int)<=a.length)&&decide (a.take b.length=b)
section
attribute [local irreducible] Int.decLt Int.decLe Int.instDecidableEq IntKind.wrap instDecidableEqList
theorem aRh(a b:ax):aL 154 [.d (.str a),.d (.str b)] [] (.d (.bool (aGK a b))) []:=by
 refine YV.hB ?_;conv=>whnf
 repeat ((first|refine qo ?_|refine qn ?_);conv=>whnf)
 refine ax' (λh=> ?_) (λh=> ?_)
 .conv=>whnf
  repeat ((first|refine qo ?_|refine qn ?_);conv=>whnf)
  have d:b.length<=a.length:=az8;refine⟨az8,?_⟩;have c:((a.drop (Int.toNat 0)).take (Int.toNat (b.length:Int)-Int.toNat 0))=a.take b.length:=az7;simp only[c];conv=>whnf
  repeat ((first|refine qo ?_|refine qn ?_);conv=>whnf)
  exact⟨by unfold aGK;rw[h];rfl,az5⟩
 .conv=>whnf
  repeat ((first|refine qo ?_|refine qn ?_);conv=>whnf)
  exact⟨by unfold aGK;rw[h];rfl,az5⟩
theorem aGQ(a b:ax):aL 111 [.d (.str a),.d (.str b)] [] (.d (.bool (aGK a b))) []:=by
 refine aIi.hB ?_;refine db ?_;refine⟨_,_,aRh a b,?_⟩;refine db ?_;exact⟨az5,az5⟩
end
structure aHc where
 k:Int
 t:ax
 n:Int
 len:Option Nat
 e:Int
def aGJ(e:Int):aHc:=⟨0,[],0,none,e⟩
def aHd:List ax:=[[33,61],[60,61],[62,61],[46,46],[40],[41],[44],[59],[58],[124],[43],[45],[42],[47],[37],[61],[60],[62]]
def aG3(r:ax):List ax->Option ax
 |[]=>none
 |x::l=>cond (aGK r x) (some x) (aG3 r l)
def aGF:ax->aHc
 |[]=>aGJ 50
 |c::l=>
  cond (Hg c) (cond (decide ((16:Int)<(aGI Dz (c::l):Nat))) (aGJ 50) ⟨1,(c::l).take (aGI Dz (c::l)),0,some (aGI Dz (c::l)),0⟩)
  (cond (Hh c) (cond (decide ((c.toNat:Int)=48)&&decide ((1:Int)<(aGI Hh (c::l):Nat))) (aGJ 50) (match Lib.atoiAll ((c::l).take (aGI Hh (c::l)))with
   |.ok v=>⟨2,[],v,some (aGI Hh (c::l)),0⟩
   |_=>aGJ 10))
  (cond (decide ((c.toNat:Int)=34)) (match aGO l with
   |none=>aGJ 50
   |some m=>match aGX (l.take (m-1))with
    |none=>aGJ 50
    |some t=>⟨3,t,0,some (m+1),0⟩)
  (match aG3 (c::l) aHd with
   |none=>aGJ 50
   |some x=>⟨4,x,0,some x.length,0⟩)))
def aHw(k:Nat)(x:aHc):Int:=match x.len with
 |some m=>((k+m:Nat):Int)
 |none=>0
def aGT(k:Nat)(x:aHc):ah:=.tuple [.d (.agg [int x.k,.str x.t,int x.n,int k]),.d (int (aHw k x)),.d (int x.e)]
theorem aRi:∀(n:Nat) (l:ax),l.length<=n->∀m,aGO l=some m->l.take m=l.take (m-1)++[34]:=by
 intro n;induction n with
 |zero=>
  grind[aGO]
 |succ n ih=>
  intro l g m h;cases l with
  |nil=>simp_all
  |cons c l=>
   unfold aGO at h;cases h1:decide ((c.toNat:Int)=92)with
   |true=>
    rw[h1]at h;simp only[aC0]at h;cases l with
    |nil=>grind
    |cons d l=>
     simp only[aDr]at h;obtain⟨q,a,rfl⟩:=h;have:=ih l az9 q a;have f:=(aHt _ l (aCw _) q a).1;obtain⟨b,rfl⟩:∃b,q=b+1:=⟨q-1,az6⟩;simp_all
   |false=>
    rw[h1]at h;simp only[aDy]at h;cases e:decide ((c.toNat:Int)=34)with
    |true=>
     rw[e]at h;simp only[aC0,aCz]at h;subst h;have:c=34:=by
      have:=of_decide_eq_true e;apply UInt8.toNat_inj.1;grind
     simp_all
    |false=>
     rw[e]at h;simp only[aDy,aDr]at h;obtain⟨q,a,rfl⟩:=h;have:=ih l az8 q a;have f:=(aHt _ l (aCw _) q a).1;obtain⟨b,rfl⟩:∃b,q=b+1:=⟨q-1,az6⟩;simp_all
theorem drop_take(s:ax){k m:Nat}:((s.drop (Int.toNat (k:Int))).take (Int.toNat ((k+m:Nat):Int)-Int.toNat (k:Int)))=(s.drop k).take m:=az9
section
attribute [local irreducible] Int.decLt Int.decLe Int.instDecidableEq IntKind.wrap instDecidableEqList
theorem aRj(k m:Nat)(h:k+m<=1073741824):IntKind.i64.wrap (((k+m:Nat):Int)-(k:Int))=(m:Int):=by
 grind[IntKind.wrap,IntKind.bits]
theorem u0(k m:Nat)(h:k+m<=2147483648):IntKind.i64.wrap ((k:Int)+(m:Int))=((k+m:Nat):Int):=by
 grind[IntKind.wrap,IntKind.bits]
def aRk(s:ax)(k i:Int):ag:=lZ [(0,.d (.str s)),(1,.d (int k)),(4,.dw 4 0),(19,.d (.agg (aHd.map D.str))),(20,.d (int i))] [(4,[.d (int 0),.d (.str []),.d (int 0),.d (int k)])] []
theorem aRl(s:ax)(k:Nat)(A:k<s.length)(z:s.length<=1073741824):aL 50 [.d (.str s),.d (int k)] [] (aGT k (aGF (s.drop k))) []:=by
 have o:=aEK A;have V:(s.drop k).length=s.length-k:=aDQ;have R:decide ((20:Int)=0)=false:=aC3 az6;have S:decide ((0:Int)=0)=true:=aCI rfl;refine Ma.hB ?_;conv=>whnf
 repeat ((first|refine qo ?_|refine qn ?_);conv=>whnf)
 refine⟨az8,?_⟩;rw[getD_at A];refine db ?_;have d:∀x:aHc,aGF (s.drop k)=x->aGT k x=aGT k (aGF (s.drop k)):=λx h=>congrArg (aGT k) h.symm;refine⟨_,_,aot s[k],?_⟩;refine db ?_;first|refine uU (λp=> ?_) (λp=> ?_)|((refine ta (λp=> ?_) (λp=> ?_))<;>(try simp only[aC0]at p))
 .refine db ?_;have c:=aHI s k 106 Dz aou az6 z;have P:=aG9 Dz (s.drop k);refine⟨_,_,c,?_⟩;refine db ?_;simp only[aRj k (aGI Dz (s.drop k)) az6];first|refine uU (λj=> ?_) (λj=> ?_)|((refine ta (λj=> ?_) (λj=> ?_))<;>(try simp only[aC0]at j))
  .have a:aGF (s.drop k)=aGJ 50:=by
    rw[o]at j⊢;simp_all[aGF]
   refine db ?_;exact⟨aCO (b:=aGT k (aGJ 50)) az5 (d _ a),az5⟩
  .have a:aGF (s.drop k)=⟨1,(s.drop k).take (aGI Dz (s.drop k)),0,some (aGI Dz (s.drop k)),0⟩:=by
    rw[o]at j⊢;simp only[aGF,p,aC0,aDy,j]
   conv=>whnf
   repeat ((first|refine qo ?_|refine qn ?_);conv=>whnf)
   refine⟨aA9,?_⟩;conv=>whnf
   repeat ((first|refine qo ?_|refine qn ?_);conv=>whnf)
   simp only[drop_take];refine db ?_;exact⟨aCO (b:=aGT k ⟨1,(s.drop k).take (aGI Dz (s.drop k)),0,some (aGI Dz (s.drop k)),0⟩) az5 (d _ a),az5⟩
 refine db ?_;refine⟨_,_,acC s[k],?_⟩;refine db ?_;first|refine uU (λj=> ?_) (λj=> ?_)|((refine ta (λj=> ?_) (λj=> ?_))<;>(try simp only[aC0]at j))
 .refine db ?_;have c:=aHI s k 107 Hh acC az6 z;have P:=aG9 Hh (s.drop k);refine⟨_,_,c,?_⟩;refine db ?_
  have C:(decide (((s[k]).toNat:Int)=48)&&decide ((1:Int)<(aGI Hh (s.drop k):Nat)))=false->∀x:aHc,(match Lib.atoiAll ((s.drop k).take (aGI Hh (s.drop k)))with
    |.ok v=>⟨2,[],v,some (aGI Hh (s.drop k)),0⟩
    |_=>aGJ 10)=x->aGF (s.drop k)=x:=by
   intro h x J;rw[<-J];rw[o]at h⊢;simp only[aGF,p,j,aC0,aDy,h]
  have M:(decide (((s[k]).toNat:Int)=48)&&decide ((1:Int)<(aGI Hh (s.drop k):Nat)))=true->aGF (s.drop k)=aGJ 50:=by
   intro h;rw[o]at h⊢;simp only[aGF,p,j,aC0,aDy,h]
  have E:((s.drop k).take (aGI Hh (s.drop k))).length<=1073741824:=az9;refine ax' (λl=> ?_) (λl=> ?_)
  .conv=>whnf
   repeat ((first|refine qo ?_|refine qn ?_);conv=>whnf)
   simp only[aGR (show k<4611686018427387904 by omega)];first|refine uU (λw=> ?_) (λw=> ?_)|((refine ta (λw=> ?_) (λw=> ?_))<;>(try simp only[aC0]at w))
   .have G:decide ((1:Int)<(aGI Hh (s.drop k):Nat))=true:=aCI az8;refine db ?_;exact⟨aCO (b:=aGT k (aGJ 50)) az5 (d _ (M az8)),az5⟩
   .have G:decide ((1:Int)<(aGI Hh (s.drop k):Nat))=false:=aC3 az8;have r:=C az8;conv=>whnf
    repeat ((first|refine qo ?_|refine qn ?_);conv=>whnf)
    refine⟨aA9,?_⟩;conv=>whnf
    repeat ((first|refine qo ?_|refine qn ?_);conv=>whnf)
    simp only[drop_take];refine Or.elim (aoE _ E) (λh=> ?_) (λh=> ?_)
    .refine aC1 h (λv q=> ?_);refine c6 (q.2) ?_;exact⟨aCO (b:=aGT k ⟨2,[],v,some (aGI Hh (s.drop k)),0⟩) az5 (d _ (r _ az9)),az5⟩
    .refine aC1 h (λv q=> ?_);refine c6 (q.2) ?_;exact⟨aCO (b:=aGT k (aGJ 10)) az5 (d _ (r _ az8)),az5⟩
  .have r:=C az8;conv=>whnf
   repeat ((first|refine qo ?_|refine qn ?_);conv=>whnf)
   refine⟨aA9,?_⟩;conv=>whnf
   repeat ((first|refine qo ?_|refine qn ?_);conv=>whnf)
   simp only[drop_take];refine Or.elim (aoE _ E) (λh=> ?_) (λh=> ?_)
   .refine aC1 h (λv q=> ?_);refine c6 (q.2) ?_;exact⟨aCO (b:=aGT k ⟨2,[],v,some (aGI Hh (s.drop k)),0⟩) az5 (d _ (r _ az9)),az5⟩
   .refine aC1 h (λv q=> ?_);refine c6 (q.2) ?_;exact⟨aCO (b:=aGT k (aGJ 10)) az5 (d _ (r _ az8)),az5⟩
 refine db ?_;first|refine uU (λl=> ?_) (λl=> ?_)|((refine ta (λl=> ?_) (λl=> ?_))<;>(try simp only[aC0]at l))
 .refine db ?_;refine⟨_,_,aQ9 s k A z,?_⟩;refine db ?_
  have f:aGF (s.drop k)=(match aGO (s.drop (k+1))with
   |none=>aGJ 50
   |some m=>match aGX ((s.drop (k+1)).take (m-1))with
    |none=>aGJ 50
    |some t=>⟨3,t,0,some (m+1),0⟩):=by
   rw[o];simp_all[aGF]
  have F:aGO (s.drop (k+1))=none\/∃m,aGO (s.drop (k+1))=some m:=az9;refine Or.elim F (λh=> ?_) (λh=>aC1 h (λm B=> ?_))
  .have a:aGF (s.drop k)=aGJ 50:=by simp_all
   refine ax6 (aCI (by rw[h];show(-1:Int)<0;omega)) ?_;refine db ?_;exact⟨aCO (b:=aGT k (aGJ 50)) az5 (d _ a),az5⟩
  .have L:=aHt _ _ (aCw _) m B;rw[aDQ]at L;have N:aG2 (k+1) (aGO (s.drop (k+1)))=((k+(m+1):Nat):Int):=by grind[aG2]
   have K:(s.drop k).take (m+1)=34::((s.drop (k+1)).take (m-1)++[34]):=by
    rw[o,aE5,aRi _ _ (aCw _) m B];congr 1;have:=of_decide_eq_true l;apply UInt8.toNat_inj.1;grind
   simp only[N];refine ax7 (aC3 az6) ?_;conv=>whnf
   repeat ((first|refine qo ?_|refine qn ?_);conv=>whnf)
   refine⟨aA9,?_⟩;conv=>whnf
   repeat ((first|refine qo ?_|refine qn ?_);conv=>whnf)
   simp only[drop_take,K];have y:=aRf ((s.drop (k+1)).take (m-1)) az9;have H:(aGX ((s.drop (k+1)).take (m-1))=none/\aL 110 [.d (.str (34::((s.drop (k+1)).take (m-1)++[34])))] [] (.tuple [.d (oE 0 0 []),.d (int 20)]) [])\/∃t,aGX ((s.drop (k+1)).take (m-1))=some t/\aL 110 [.d (.str (34::((s.drop (k+1)).take (m-1)++[34])))] [] (.tuple [.d (oE 2 0 t),.d (int 0)]) []:=by
    cases u:aGX ((s.drop (k+1)).take (m-1))with
    |none=>rw[u]at y;exact .inl ⟨rfl,y⟩
    |some t=>rw[u]at y;exact .inr ⟨t,rfl,y⟩
   refine Or.elim H (λh=> ?_) (λh=>aC1 h (λt u=> ?_))
   .have a:aGF (s.drop k)=aGJ 50:=by simp_all
    refine c6 (h.2) ?_;exact⟨aCO (b:=aGT k (aGJ 50)) az5 (d _ a),az5⟩
   .have a:aGF (s.drop k)=⟨3,t,0,some (m+1),0⟩:=by simp_all
    refine c6 (u.2) ?_;exact⟨aCO (b:=aGT k ⟨3,t,0,some (m+1),0⟩) az5 (d _ a),az5⟩
 have f:aGF (s.drop k)=(match aG3 (s.drop k) aHd with
   |none=>aGJ 50
   |some x=>⟨4,x,0,some x.length,0⟩):=by
  rw[o];simp_all[aGF]
 have g:((s.drop (Int.toNat (k:Int))).take (Int.toNat (s.length:Int)-Int.toNat (k:Int)))=s.drop k:=by
  grind[Int.toNat_natCast]
 have W:(0:Int)<=(k:Int):=az6;refine db ?_;refine⟨λn Q=>∃i:Nat,i<=18/\n=18-i/\aG3 (s.drop k) (aHd.drop i)=aG3 (s.drop k) aHd/\Q=aRk s k i,18,⟨0,az6,rfl,rfl,az5⟩,?_⟩;rintro _ _ ⟨i,U,rfl,c,rfl⟩;obtain rfl|rfl|rfl|rfl|rfl|rfl|rfl|rfl|rfl|rfl|rfl|rfl|rfl|rfl|rfl|rfl|rfl|rfl|rfl:i=0\/i=1\/i=2\/i=3\/i=4\/i=5\/i=6\/i=7\/i=8\/i=9\/i=10\/i=11\/i=12\/i=13\/i=14\/i=15\/i=16\/i=17\/i=18:=az6
 .refine db ?_;refine ax6 (aCI az6) ?_;conv=>whnf
  refine⟨az5,?_⟩;conv=>whnf
  refine⟨az9,?_⟩;conv=>whnf
  simp only[g];refine db ?_;refine c6 (aGQ (s.drop k) [33,61]) ?_;first|refine uU (λh=> ?_) (λh=> ?_)|((refine ta (λh=> ?_) (λh=> ?_))<;>(try simp only[aC0]at h))
  .have a:aGF (s.drop k)=⟨4,[33,61],0,some 2,0⟩:=by
    rw[f,<-c];show(match cond (aGK (s.drop k) [33,61]) (some [33,61]) _ with|none=>aGJ 50|some x=>⟨4,x,0,some x.length,0⟩)=_;rw[h];rfl
   refine db ?_;exact⟨aCO (aCO (b:=ah.tuple [.d (.agg [int 4,.str [33,61],int 0,int k]),.d (int (IntKind.i64.wrap ((k:Int)+((2:Nat):Int)))),.d (int 0)]) az5 (congrArg (λe=>ah.tuple [.d (.agg [int 4,.str [33,61],int 0,int k]),.d (int e),.d (int 0)]) (u0 k 2 az6))) (d _ a),az5⟩
  .refine db ?_;refine⟨17-0,az6,0+1,az6,az6,?_,az5⟩;rw[<-c];show _=cond (aGK (s.drop k) [33,61]) (some [33,61]) _;rw[h];rfl
 .refine db ?_;refine ax6 (aCI az6) ?_;conv=>whnf
  refine⟨az5,?_⟩;conv=>whnf
  refine⟨az9,?_⟩;conv=>whnf
  simp only[g];refine db ?_;refine c6 (aGQ (s.drop k) [60,61]) ?_;first|refine uU (λh=> ?_) (λh=> ?_)|((refine ta (λh=> ?_) (λh=> ?_))<;>(try simp only[aC0]at h))
  .have a:aGF (s.drop k)=⟨4,[60,61],0,some 2,0⟩:=by
    rw[f,<-c];show(match cond (aGK (s.drop k) [60,61]) (some [60,61]) _ with|none=>aGJ 50|some x=>⟨4,x,0,some x.length,0⟩)=_;rw[h];rfl
   refine db ?_;exact⟨aCO (aCO (b:=ah.tuple [.d (.agg [int 4,.str [60,61],int 0,int k]),.d (int (IntKind.i64.wrap ((k:Int)+((2:Nat):Int)))),.d (int 0)]) az5 (congrArg (λe=>ah.tuple [.d (.agg [int 4,.str [60,61],int 0,int k]),.d (int e),.d (int 0)]) (u0 k 2 az6))) (d _ a),az5⟩
  .refine db ?_;refine⟨17-1,az6,1+1,az6,az6,?_,az5⟩;rw[<-c];show _=cond (aGK (s.drop k) [60,61]) (some [60,61]) _;rw[h];rfl
 .refine db ?_;refine ax6 (aCI az6) ?_;conv=>whnf
  refine⟨az5,?_⟩;conv=>whnf
  refine⟨az9,?_⟩;conv=>whnf
  simp only[g];refine db ?_;refine c6 (aGQ (s.drop k) [62,61]) ?_;first|refine uU (λh=> ?_) (λh=> ?_)|((refine ta (λh=> ?_) (λh=> ?_))<;>(try simp only[aC0]at h))
  .have a:aGF (s.drop k)=⟨4,[62,61],0,some 2,0⟩:=by
    rw[f,<-c];show(match cond (aGK (s.drop k) [62,61]) (some [62,61]) _ with|none=>aGJ 50|some x=>⟨4,x,0,some x.length,0⟩)=_;rw[h];rfl
   refine db ?_;exact⟨aCO (aCO (b:=ah.tuple [.d (.agg [int 4,.str [62,61],int 0,int k]),.d (int (IntKind.i64.wrap ((k:Int)+((2:Nat):Int)))),.d (int 0)]) az5 (congrArg (λe=>ah.tuple [.d (.agg [int 4,.str [62,61],int 0,int k]),.d (int e),.d (int 0)]) (u0 k 2 az6))) (d _ a),az5⟩
  .refine db ?_;refine⟨17-2,az6,2+1,az6,az6,?_,az5⟩;rw[<-c];show _=cond (aGK (s.drop k) [62,61]) (some [62,61]) _;rw[h];rfl
 .refine db ?_;refine ax6 (aCI az6) ?_;conv=>whnf
  refine⟨az5,?_⟩;conv=>whnf
  refine⟨az9,?_⟩;conv=>whnf
  simp only[g];refine db ?_;refine c6 (aGQ (s.drop k) [46,46]) ?_;first|refine uU (λh=> ?_) (λh=> ?_)|((refine ta (λh=> ?_) (λh=> ?_))<;>(try simp only[aC0]at h))
  .have a:aGF (s.drop k)=⟨4,[46,46],0,some 2,0⟩:=by
    rw[f,<-c];show(match cond (aGK (s.drop k) [46,46]) (some [46,46]) _ with|none=>aGJ 50|some x=>⟨4,x,0,some x.length,0⟩)=_;rw[h];rfl
   refine db ?_;exact⟨aCO (aCO (b:=ah.tuple [.d (.agg [int 4,.str [46,46],int 0,int k]),.d (int (IntKind.i64.wrap ((k:Int)+((2:Nat):Int)))),.d (int 0)]) az5 (congrArg (λe=>ah.tuple [.d (.agg [int 4,.str [46,46],int 0,int k]),.d (int e),.d (int 0)]) (u0 k 2 az6))) (d _ a),az5⟩
  .refine db ?_;refine⟨17-3,az6,3+1,az6,az6,?_,az5⟩;rw[<-c];show _=cond (aGK (s.drop k) [46,46]) (some [46,46]) _;rw[h];rfl
 .refine db ?_;refine ax6 (aCI az6) ?_;conv=>whnf
  refine⟨az5,?_⟩;conv=>whnf
  refine⟨az9,?_⟩;conv=>whnf
  simp only[g];refine db ?_;refine c6 (aGQ (s.drop k) [40]) ?_;first|refine uU (λh=> ?_) (λh=> ?_)|((refine ta (λh=> ?_) (λh=> ?_))<;>(try simp only[aC0]at h))
  .have a:aGF (s.drop k)=⟨4,[40],0,some 1,0⟩:=by
    rw[f,<-c];show(match cond (aGK (s.drop k) [40]) (some [40]) _ with|none=>aGJ 50|some x=>⟨4,x,0,some x.length,0⟩)=_;rw[h];rfl
   refine db ?_;exact⟨aCO (aCO (b:=ah.tuple [.d (.agg [int 4,.str [40],int 0,int k]),.d (int (IntKind.i64.wrap ((k:Int)+((1:Nat):Int)))),.d (int 0)]) az5 (congrArg (λe=>ah.tuple [.d (.agg [int 4,.str [40],int 0,int k]),.d (int e),.d (int 0)]) (u0 k 1 az6))) (d _ a),az5⟩
  .refine db ?_;refine⟨17-4,az6,4+1,az6,az6,?_,az5⟩;rw[<-c];show _=cond (aGK (s.drop k) [40]) (some [40]) _;rw[h];rfl
 .refine db ?_;refine ax6 (aCI az6) ?_;conv=>whnf
  refine⟨az5,?_⟩;conv=>whnf
  refine⟨az9,?_⟩;conv=>whnf
  simp only[g];refine db ?_;refine c6 (aGQ (s.drop k) [41]) ?_;first|refine uU (λh=> ?_) (λh=> ?_)|((refine ta (λh=> ?_) (λh=> ?_))<;>(try simp only[aC0]at h))
  .have a:aGF (s.drop k)=⟨4,[41],0,some 1,0⟩:=by
    rw[f,<-c];show(match cond (aGK (s.drop k) [41]) (some [41]) _ with|none=>aGJ 50|some x=>⟨4,x,0,some x.length,0⟩)=_;rw[h];rfl
   refine db ?_;exact⟨aCO (aCO (b:=ah.tuple [.d (.agg [int 4,.str [41],int 0,int k]),.d (int (IntKind.i64.wrap ((k:Int)+((1:Nat):Int)))),.d (int 0)]) az5 (congrArg (λe=>ah.tuple [.d (.agg [int 4,.str [41],int 0,int k]),.d (int e),.d (int 0)]) (u0 k 1 az6))) (d _ a),az5⟩
  .refine db ?_;refine⟨17-5,az6,5+1,az6,az6,?_,az5⟩;rw[<-c];show _=cond (aGK (s.drop k) [41]) (some [41]) _;rw[h];rfl
 .refine db ?_;refine ax6 (aCI az6) ?_;conv=>whnf
  refine⟨az5,?_⟩;conv=>whnf
  refine⟨az9,?_⟩;conv=>whnf
  simp only[g];refine db ?_;refine c6 (aGQ (s.drop k) [44]) ?_;first|refine uU (λh=> ?_) (λh=> ?_)|((refine ta (λh=> ?_) (λh=> ?_))<;>(try simp only[aC0]at h))
  .have a:aGF (s.drop k)=⟨4,[44],0,some 1,0⟩:=by
    rw[f,<-c];show(match cond (aGK (s.drop k) [44]) (some [44]) _ with|none=>aGJ 50|some x=>⟨4,x,0,some x.length,0⟩)=_;rw[h];rfl
   refine db ?_;exact⟨aCO (aCO (b:=ah.tuple [.d (.agg [int 4,.str [44],int 0,int k]),.d (int (IntKind.i64.wrap ((k:Int)+((1:Nat):Int)))),.d (int 0)]) az5 (congrArg (λe=>ah.tuple [.d (.agg [int 4,.str [44],int 0,int k]),.d (int e),.d (int 0)]) (u0 k 1 az6))) (d _ a),az5⟩
  .refine db ?_;refine⟨17-6,az6,6+1,az6,az6,?_,az5⟩;rw[<-c];show _=cond (aGK (s.drop k) [44]) (some [44]) _;rw[h];rfl
 .refine db ?_;refine ax6 (aCI az6) ?_;conv=>whnf
  refine⟨az5,?_⟩;conv=>whnf
  refine⟨az9,?_⟩;conv=>whnf
  simp only[g];refine db ?_;refine c6 (aGQ (s.drop k) [59]) ?_;first|refine uU (λh=> ?_) (λh=> ?_)|((refine ta (λh=> ?_) (λh=> ?_))<;>(try simp only[aC0]at h))
  .have a:aGF (s.drop k)=⟨4,[59],0,some 1,0⟩:=by
    rw[f,<-c];show(match cond (aGK (s.drop k) [59]) (some [59]) _ with|none=>aGJ 50|some x=>⟨4,x,0,some x.length,0⟩)=_;rw[h];rfl
   refine db ?_;exact⟨aCO (aCO (b:=ah.tuple [.d (.agg [int 4,.str [59],int 0,int k]),.d (int (IntKind.i64.wrap ((k:Int)+((1:Nat):Int)))),.d (int 0)]) az5 (congrArg (λe=>ah.tuple [.d (.agg [int 4,.str [59],int 0,int k]),.d (int e),.d (int 0)]) (u0 k 1 az6))) (d _ a),az5⟩
  .refine db ?_;refine⟨17-7,az6,7+1,az6,az6,?_,az5⟩;rw[<-c];show _=cond (aGK (s.drop k) [59]) (some [59]) _;rw[h];rfl
 .refine db ?_;refine ax6 (aCI az6) ?_;conv=>whnf
  refine⟨az5,?_⟩;conv=>whnf
  refine⟨az9,?_⟩;conv=>whnf
  simp only[g];refine db ?_;refine c6 (aGQ (s.drop k) [58]) ?_;first|refine uU (λh=> ?_) (λh=> ?_)|((refine ta (λh=> ?_) (λh=> ?_))<;>(try simp only[aC0]at h))
  .have a:aGF (s.drop k)=⟨4,[58],0,some 1,0⟩:=by
    rw[f,<-c];show(match cond (aGK (s.drop k) [58]) (some [58]) _ with|none=>aGJ 50|some x=>⟨4,x,0,some x.length,0⟩)=_;rw[h];rfl
   refine db ?_;exact⟨aCO (aCO (b:=ah.tuple [.d (.agg [int 4,.str [58],int 0,int k]),.d (int (IntKind.i64.wrap ((k:Int)+((1:Nat):Int)))),.d (int 0)]) az5 (congrArg (λe=>ah.tuple [.d (.agg [int 4,.str [58],int 0,int k]),.d (int e),.d (int 0)]) (u0 k 1 az6))) (d _ a),az5⟩
  .refine db ?_;refine⟨17-8,az6,8+1,az6,az6,?_,az5⟩;rw[<-c];show _=cond (aGK (s.drop k) [58]) (some [58]) _;rw[h];rfl
 .refine db ?_;refine ax6 (aCI az6) ?_;conv=>whnf
  refine⟨az5,?_⟩;conv=>whnf
  refine⟨az9,?_⟩;conv=>whnf
  simp only[g];refine db ?_;refine c6 (aGQ (s.drop k) [124]) ?_;first|refine uU (λh=> ?_) (λh=> ?_)|((refine ta (λh=> ?_) (λh=> ?_))<;>(try simp only[aC0]at h))
  .have a:aGF (s.drop k)=⟨4,[124],0,some 1,0⟩:=by
    rw[f,<-c];show(match cond (aGK (s.drop k) [124]) (some [124]) _ with|none=>aGJ 50|some x=>⟨4,x,0,some x.length,0⟩)=_;simp_all
   refine db ?_;exact⟨aCO (aCO (b:=ah.tuple [.d (.agg [int 4,.str [124],int 0,int k]),.d (int (IntKind.i64.wrap ((k:Int)+((1:Nat):Int)))),.d (int 0)]) az5 (congrArg (λe=>ah.tuple [.d (.agg [int 4,.str [124],int 0,int k]),.d (int e),.d (int 0)]) (u0 k 1 az6))) (d _ a),az5⟩
  .refine db ?_;refine⟨17-9,az6,9+1,az6,az6,?_,az5⟩;rw[<-c];show _=cond (aGK (s.drop k) [124]) (some [124]) _;rw[h];rfl
 .refine db ?_;refine ax6 (aCI az6) ?_;conv=>whnf
  refine⟨az5,?_⟩;conv=>whnf
  refine⟨az9,?_⟩;conv=>whnf
  simp only[g];refine db ?_;refine c6 (aGQ (s.drop k) [43]) ?_;first|refine uU (λh=> ?_) (λh=> ?_)|((refine ta (λh=> ?_) (λh=> ?_))<;>(try simp only[aC0]at h))
  .have a:aGF (s.drop k)=⟨4,[43],0,some 1,0⟩:=by
    rw[f,<-c];show(match cond (aGK (s.drop k) [43]) (some [43]) _ with|none=>aGJ 50|some x=>⟨4,x,0,some x.length,0⟩)=_;simp_all
   refine db ?_;exact⟨aCO (aCO (b:=ah.tuple [.d (.agg [int 4,.str [43],int 0,int k]),.d (int (IntKind.i64.wrap ((k:Int)+((1:Nat):Int)))),.d (int 0)]) az5 (congrArg (λe=>ah.tuple [.d (.agg [int 4,.str [43],int 0,int k]),.d (int e),.d (int 0)]) (u0 k 1 az6))) (d _ a),az5⟩
  .refine db ?_;refine⟨17-10,az6,10+1,az6,az6,?_,az5⟩;rw[<-c];show _=cond (aGK (s.drop k) [43]) (some [43]) _;rw[h];rfl
 .refine db ?_;refine ax6 (aCI az6) ?_;conv=>whnf
  refine⟨az5,?_⟩;conv=>whnf
  refine⟨az9,?_⟩;conv=>whnf
  simp only[g];refine db ?_;refine c6 (aGQ (s.drop k) [45]) ?_;first|refine uU (λh=> ?_) (λh=> ?_)|((refine ta (λh=> ?_) (λh=> ?_))<;>(try simp only[aC0]at h))
  .have a:aGF (s.drop k)=⟨4,[45],0,some 1,0⟩:=by
    rw[f,<-c];show(match cond (aGK (s.drop k) [45]) (some [45]) _ with|none=>aGJ 50|some x=>⟨4,x,0,some x.length,0⟩)=_;simp_all
   refine db ?_;exact⟨aCO (aCO (b:=ah.tuple [.d (.agg [int 4,.str [45],int 0,int k]),.d (int (IntKind.i64.wrap ((k:Int)+((1:Nat):Int)))),.d (int 0)]) az5 (congrArg (λe=>ah.tuple [.d (.agg [int 4,.str [45],int 0,int k]),.d (int e),.d (int 0)]) (u0 k 1 az6))) (d _ a),az5⟩
  .refine db ?_;refine⟨17-11,az6,11+1,az6,az6,?_,az5⟩;rw[<-c];show _=cond (aGK (s.drop k) [45]) (some [45]) _;rw[h];rfl
 .refine db ?_;refine ax6 (aCI az6) ?_;conv=>whnf
  refine⟨az5,?_⟩;conv=>whnf
  refine⟨az9,?_⟩;conv=>whnf
  simp only[g];refine db ?_;refine c6 (aGQ (s.drop k) [42]) ?_;first|refine uU (λh=> ?_) (λh=> ?_)|((refine ta (λh=> ?_) (λh=> ?_))<;>(try simp only[aC0]at h))
  .have a:aGF (s.drop k)=⟨4,[42],0,some 1,0⟩:=by
    rw[f,<-c];show(match cond (aGK (s.drop k) [42]) (some [42]) _ with|none=>aGJ 50|some x=>⟨4,x,0,some x.length,0⟩)=_;simp_all
   refine db ?_;exact⟨aCO (aCO (b:=ah.tuple [.d (.agg [int 4,.str [42],int 0,int k]),.d (int (IntKind.i64.wrap ((k:Int)+((1:Nat):Int)))),.d (int 0)]) az5 (congrArg (λe=>ah.tuple [.d (.agg [int 4,.str [42],int 0,int k]),.d (int e),.d (int 0)]) (u0 k 1 az6))) (d _ a),az5⟩
  .refine db ?_;refine⟨17-12,az6,12+1,az6,az6,?_,az5⟩;rw[<-c];show _=cond (aGK (s.drop k) [42]) (some [42]) _;rw[h];rfl
 .refine db ?_;refine ax6 (aCI az6) ?_;conv=>whnf
  refine⟨az5,?_⟩;conv=>whnf
  refine⟨az9,?_⟩;conv=>whnf
  simp only[g];refine db ?_;refine c6 (aGQ (s.drop k) [47]) ?_;first|refine uU (λh=> ?_) (λh=> ?_)|((refine ta (λh=> ?_) (λh=> ?_))<;>(try simp only[aC0]at h))
  .have a:aGF (s.drop k)=⟨4,[47],0,some 1,0⟩:=by
    rw[f,<-c];show(match cond (aGK (s.drop k) [47]) (some [47]) _ with|none=>aGJ 50|some x=>⟨4,x,0,some x.length,0⟩)=_;simp_all
   refine db ?_;exact⟨aCO (aCO (b:=ah.tuple [.d (.agg [int 4,.str [47],int 0,int k]),.d (int (IntKind.i64.wrap ((k:Int)+((1:Nat):Int)))),.d (int 0)]) az5 (congrArg (λe=>ah.tuple [.d (.agg [int 4,.str [47],int 0,int k]),.d (int e),.d (int 0)]) (u0 k 1 az6))) (d _ a),az5⟩
  .refine db ?_;refine⟨17-13,az6,13+1,az6,az6,?_,az5⟩;rw[<-c];show _=cond (aGK (s.drop k) [47]) (some [47]) _;rw[h];rfl
 .refine db ?_;refine ax6 (aCI az6) ?_;conv=>whnf
  refine⟨az5,?_⟩;conv=>whnf
  refine⟨az9,?_⟩;conv=>whnf
  simp only[g];refine db ?_;refine c6 (aGQ (s.drop k) [37]) ?_;first|refine uU (λh=> ?_) (λh=> ?_)|((refine ta (λh=> ?_) (λh=> ?_))<;>(try simp only[aC0]at h))
  .have a:aGF (s.drop k)=⟨4,[37],0,some 1,0⟩:=by
    rw[f,<-c];show(match cond (aGK (s.drop k) [37]) (some [37]) _ with|none=>aGJ 50|some x=>⟨4,x,0,some x.length,0⟩)=_;simp_all
   refine db ?_;exact⟨aCO (aCO (b:=ah.tuple [.d (.agg [int 4,.str [37],int 0,int k]),.d (int (IntKind.i64.wrap ((k:Int)+((1:Nat):Int)))),.d (int 0)]) az5 (congrArg (λe=>ah.tuple [.d (.agg [int 4,.str [37],int 0,int k]),.d (int e),.d (int 0)]) (u0 k 1 az6))) (d _ a),az5⟩
  .refine db ?_;refine⟨17-14,az6,14+1,az6,az6,?_,az5⟩;rw[<-c];show _=cond (aGK (s.drop k) [37]) (some [37]) _;rw[h];rfl
 .refine db ?_;refine ax6 (aCI az6) ?_;conv=>whnf
  refine⟨az5,?_⟩;conv=>whnf
  refine⟨az9,?_⟩;conv=>whnf
  simp only[g];refine db ?_;refine c6 (aGQ (s.drop k) [61]) ?_;first|refine uU (λh=> ?_) (λh=> ?_)|((refine ta (λh=> ?_) (λh=> ?_))<;>(try simp only[aC0]at h))
  .have a:aGF (s.drop k)=⟨4,[61],0,some 1,0⟩:=by
    rw[f,<-c];show(match cond (aGK (s.drop k) [61]) (some [61]) _ with|none=>aGJ 50|some x=>⟨4,x,0,some x.length,0⟩)=_;simp_all
   refine db ?_;exact⟨aCO (aCO (b:=ah.tuple [.d (.agg [int 4,.str [61],int 0,int k]),.d (int (IntKind.i64.wrap ((k:Int)+((1:Nat):Int)))),.d (int 0)]) az5 (congrArg (λe=>ah.tuple [.d (.agg [int 4,.str [61],int 0,int k]),.d (int e),.d (int 0)]) (u0 k 1 az6))) (d _ a),az5⟩
  .refine db ?_;refine⟨17-15,az6,15+1,az6,az6,?_,az5⟩;rw[<-c];show _=cond (aGK (s.drop k) [61]) (some [61]) _;rw[h];rfl
 .refine db ?_;refine ax6 (aCI az6) ?_;conv=>whnf
  refine⟨az5,?_⟩;conv=>whnf
  refine⟨az9,?_⟩;conv=>whnf
  simp only[g];refine db ?_;refine c6 (aGQ (s.drop k) [60]) ?_;first|refine uU (λh=> ?_) (λh=> ?_)|((refine ta (λh=> ?_) (λh=> ?_))<;>(try simp only[aC0]at h))
  .have a:aGF (s.drop k)=⟨4,[60],0,some 1,0⟩:=by
    rw[f,<-c];show(match cond (aGK (s.drop k) [60]) (some [60]) _ with|none=>aGJ 50|some x=>⟨4,x,0,some x.length,0⟩)=_;simp_all
   refine db ?_;exact⟨aCO (aCO (b:=ah.tuple [.d (.agg [int 4,.str [60],int 0,int k]),.d (int (IntKind.i64.wrap ((k:Int)+((1:Nat):Int)))),.d (int 0)]) az5 (congrArg (λe=>ah.tuple [.d (.agg [int 4,.str [60],int 0,int k]),.d (int e),.d (int 0)]) (u0 k 1 az6))) (d _ a),az5⟩
  .refine db ?_;refine⟨17-16,az6,16+1,az6,az6,?_,az5⟩;rw[<-c];show _=cond (aGK (s.drop k) [60]) (some [60]) _;rw[h];rfl
 .refine db ?_;refine ax6 (aCI az6) ?_;conv=>whnf
  refine⟨az5,?_⟩;conv=>whnf
  refine⟨az9,?_⟩;conv=>whnf
  simp only[g];refine db ?_;refine c6 (aGQ (s.drop k) [62]) ?_;first|refine uU (λh=> ?_) (λh=> ?_)|((refine ta (λh=> ?_) (λh=> ?_))<;>(try simp only[aC0]at h))
  .have a:aGF (s.drop k)=⟨4,[62],0,some 1,0⟩:=by
    rw[f,<-c];show(match cond (aGK (s.drop k) [62]) (some [62]) _ with|none=>aGJ 50|some x=>⟨4,x,0,some x.length,0⟩)=_;simp_all
   refine db ?_;exact⟨aCO (aCO (b:=ah.tuple [.d (.agg [int 4,.str [62],int 0,int k]),.d (int (IntKind.i64.wrap ((k:Int)+((1:Nat):Int)))),.d (int 0)]) az5 (congrArg (λe=>ah.tuple [.d (.agg [int 4,.str [62],int 0,int k]),.d (int e),.d (int 0)]) (u0 k 1 az6))) (d _ a),az5⟩
  .refine db ?_;refine⟨17-17,az6,17+1,az6,az6,?_,az5⟩;rw[<-c];show _=cond (aGK (s.drop k) [62]) (some [62]) _;rw[h];rfl
 .have a:aGF (s.drop k)=aGJ 50:=by
   rw[f,<-c];rfl
  refine db ?_;refine ax7 (aC3 az6) ?_;refine db ?_;exact⟨aCO (b:=aGT k (aGJ 50)) az5 (d _ a),az5⟩
end
structure Tok where
 k:Int
 t:ax
 n:Int
 p:Nat
def Tok.d(x:Tok):D:=.agg [int x.k,.str x.t,int x.n,int x.p]
def pw(l:List Tok):D:=.list 4 (l.map Tok.d)
def aGU:Nat->Nat->ax->List Tok×Nat×Int
 |0,p,_=>([],p,0)
 |n+1,p,r=>match r with
  |[]=>([],p,0)
  |c::l=>match (aGF (c::l)).len with
   |none=>([],p,(aGF (c::l)).e)
   |some m=>match aGU n (p+m+aGL false ((c::l).drop m)) (((c::l).drop m).drop (aGL false ((c::l).drop m)))with
    |(ts,q,e)=>cond (decide (e=0)) (⟨(aGF (c::l)).k,(aGF (c::l)).t,(aGF (c::l)).n,p⟩::ts,q,0) ([],q,e)
def qy(s:ax):List Tok×Nat×Int:=cond (decide ((16384:Int)<(s.length:Nat))) ([],0,31) (aGU (s.length+1) (aGL false s) (s.drop (aGL false s)))
theorem aIM{r x:ax}:∀{l:List ax},aG3 r l=some x->x∈l/\aGK r x=true
 |[],h=>by grind[aG3]
 |y::l,h=>by
  simp only[aG3]at h;cases a:aGK r y with
  |true=>simp_all
  |false=>rw[a]at h;have:=aIM h;simp_all
theorem aRn{c:UInt8}{l:ax}:(∃e,aGF (c::l)=aGJ e/\e≠0)\/∃m,(aGF (c::l)).len=some m/\(aGF (c::l)).e=0/\1<=m/\m<=(c::l).length:=by
 have j:=aG9 Dz (c::l);have d:=aG9 Hh (c::l);simp only[aGF];cases h1:Hg c with
 |true=>
  simp only[aC0];have f:1<=aGI Dz (c::l):=by grind[aGI,Dz]
  cases decide ((16:Int)<(aGI Dz (c::l):Nat))with
  |true=>grind
  |false=>simp_all
 |false=>
  simp only[aDy];cases h:Hh c with
  |true=>
   simp only[aC0];have g:1<=aGI Hh (c::l):=by grind[aGI]
   cases (decide ((c.toNat:Int)=48)&&decide ((1:Int)<(aGI Hh (c::l):Nat)))with
   |true=>exact .inl ⟨50,rfl,az6⟩
   |false=>
    simp only[aDy];split;all_goals grind
  |false=>
   simp only[aDy];cases i:decide ((c.toNat:Int)=34)with
   |true=>
    simp only[aC0];split
    .grind
    .rename_i m a;have:=aHt _ _ (aCw _) m a;split;all_goals grind
   |false=>
    simp only[aDy];split
    .grind
    .rename_i x ai;obtain⟨a,b⟩:=aIM ai;refine .inr ⟨_,rfl,rfl,?_,?_⟩
     .simp only[aHd,aCJ,List.mem_nil_iff,aDW]at a;grind
     .unfold aGK at b;grind
def aGY(o:List Tok)(x:List Tok×Nat×Int):List Tok×Nat×Int:=cond (decide (x.2.2=0)) (o++x.1,x.2.1,0) ([],x.2.1,x.2.2)
def aoN(x:List Tok×Nat×Int):ah:=.tuple [.d (pw x.1),.d (int x.2.1),.d (int x.2.2)]
theorem aRo:∀(n p:Nat) (r:ax),(aGU n p r).2.2≠0->(aGU n p r).1=[]
 |0,p,r,h=>rfl
 |n+1,p,[],h=>rfl
 |n+1,p,c::l,h=>by
  grind[aGU]
theorem aRp(s:ax):aGY [] (qy s)=qy s:=by
 have a:(qy s).2.2≠0->(qy s).1=[]:=by
  grind[qy,aRo]
 unfold aGY;grind
theorem aRq{o:List Tok}{m p:Nat}{c:UInt8}{l:ax}{e:Int}(h:aGF (c::l)=aGJ e)(a:e≠0):aGY o (aGU (m+1) p (c::l))=([],p,e):=by
 grind[aGU,aGJ,aGY]
theorem aRr{o:List Tok}{m p k:Nat}{c:UInt8}{l:ax}(h:(aGF (c::l)).len=some k):
  aGY o (aGU (m+1) p (c::l))=aGY (o++[⟨(aGF (c::l)).k,(aGF (c::l)).t,(aGF (c::l)).n,p⟩]) (aGU m (p+k+aGL false ((c::l).drop k)) (((c::l).drop k).drop (aGL false ((c::l).drop k)))):=by
 conv=>lhs;unfold aGU
 simp only[h,aGY];cases a:decide ((aGU m (p+k+aGL false ((c::l).drop k)) (((c::l).drop k).drop (aGL false ((c::l).drop k)))).2.2=0)with
 |true=>simp
 |false=>
  simp only[aDy];rw[a];rfl
section
attribute [local irreducible] Int.decLt Int.decLe Int.instDecidableEq IntKind.wrap instDecidableEqList
def aIN(s:ax)(o:List Tok)(p:Int):ag:=cA [(0,.d (.str s)),(2,.own 4 (o.map Tok.d)),(3,.d (int p))] []
theorem aRs(s:ax)(j:s.length<=1073741824):aL 24 [.d (.str s)] [] (aoN (qy s)) []:=by
 refine Yk.hB ?_;refine db ?_;first|refine uU (λh=> ?_) (λh=> ?_)|((refine ta (λh=> ?_) (λh=> ?_))<;>(try simp only[aC0]at h))
 .refine db ?_;exact⟨aCO (b:=aoN ([],0,31)) az5 (congrArg aoN (show([],0,31)=qy s by grind[qy])),az5⟩
 .have f:qy s=aGU (s.length+1) (aGL false s) (s.drop (aGL false s)):=by grind[qy]
  have y:=aG' false s;have r:=aIJ s 0 az6 j;rw[List.drop_zero,aDl]at r;refine db ?_;refine c6 (r) ?_;refine⟨λn E=>∃(p m:Nat) (o:List Tok),p<=s.length/\n=s.length-p/\s.length-p<m/\o.length<=p/\aGY o (aGU m p (s.drop p))=aGY [] (qy s)/\E=aIN s o p,s.length-aGL false s,⟨aGL false s,s.length+1,[],y,rfl,az6,az7,by rw[f],az5⟩,?_⟩;rintro _ _ ⟨p,m,o,J,rfl,H,G,q,rfl⟩;have u:=q.trans (aRp s);refine db ?_;first|refine uU (λg=> ?_) (λg=> ?_)|((refine ta (λg=> ?_) (λg=> ?_))<;>(try simp only[aC0]at g))
  .have i:p<s.length:=by grind
   have d:=aEK i;obtain⟨m,rfl⟩:∃B,m=B+1:=⟨m-1,az6⟩;have z:=aRl s p i j;refine db ?_;refine⟨_,_,z,?_⟩;refine db ?_;refine Or.elim (aRn (c:=s[p]) (l:=s.drop (p+1))) (λa=>aC1 a (λe a=> ?_)) (λa=>aC1 a (λk a=> ?_))
   .rw[<-d]at a;have v:=aRq (o:=o) (m:=m) (p:=p) (d▸a.1:aGF (s[p]::s.drop (p+1))=aGJ e) a.2;rw[<-d]at v;have f:=u.symm.trans v;have A:(aGF (s.drop p)).e=e:=by rw[a.1];rfl
    refine ax8 (aC3 az6) ?_;refine db ?_;exact⟨aCO (aCO (b:=ah.tuple [.d (pw []),.d (int p),.d (int (aGF (s.drop p)).e)]) az5 (congrArg (λe=>ah.tuple [.d (pw []),.d (int p),.d (int e)]) A)) (congrArg aoN f.symm),az5⟩
   .rw[<-d]at a;have t:=aRr (o:=o) (m:=m) (p:=p) (d▸a.1:(aGF (s[p]::s.drop (p+1))).len=some k);rw[<-d,aFe,aFe]at t;have C:p+k<=s.length:=az9;have F:=aIJ s (p+k) C j;have w:=aG' false (s.drop (p+k));rw[aDQ]at w;have K:aHw p (aGF (s.drop p))=((p+k:Nat):Int):=by unfold aHw;grind
    refine ax9 (aCI a.2.1) ?_;have x:aL 49 [.d (.str s),.d (int (aHw p (aGF (s.drop p))))] [] (.d (int ((p+k+aGL false (s.drop (p+k)):Nat):Int))) []:=az9;conv=>whnf
    repeat ((first|refine qo ?_|refine qn ?_);conv=>whnf)
    refine⟨aA9,?_⟩;refine db ?_;refine c6 (x) ?_;refine⟨s.length-(p+k+aGL false (s.drop (p+k))),az6,p+k+aGL false (s.drop (p+k)),m,o++[⟨(aGF (s.drop p)).k,(aGF (s.drop p)).t,(aGF (s.drop p)).n,p⟩],az6,rfl,az6,az9,t.symm.trans q,?_⟩;exact aCO (b:=cA [(0,.d (.str s)),(2,.own 4 (o.map Tok.d++[Tok.d ⟨(aGF (s.drop p)).k,(aGF (s.drop p)).t,(aGF (s.drop p)).n,p⟩])),(3,.d (int ((p+k+aGL false (s.drop (p+k)):Nat):Int)))] []) az5 (by unfold aIN;rw[aCR];rfl)
  .have i:¬p<s.length:=by grind
   have f:qy s=(o,p,0):=by
    rw[<-u,aF0 az6];cases m<;>simp[aGU,aGY]
   refine db ?_;exact⟨aCO (b:=aoN (o,p,0)) az5 (congrArg aoN f.symm),az5⟩
end
def aG0:Nat->List ah->aY->Out:=λf a s=>
 cond (Nat.beq f 24) (match a,s with
  |[.d (.str x)],[]=>cond (Nat.ble x.length 16384) (some (aoN (qy x),[])) (ext f a s)
  |_,_=>ext f a s) (cond (Nat.beq f 273) (match a with
  |[.d (.str x),.d (.int .u8 c)]=>some (.d (.int .i64 (Lib.indexByte x c.toNat.toUInt8)),s)
  |_=>ext f a s) (ext f a s))
theorem aG4:hP a1 gl aG0:=by
 intro f d s r g h;unfold aG0 at h;cases h1:Nat.beq f 24 with
 |true=>
  have e:=aCG h1;subst e;rw[h1]at h;simp only[aC0]at h;split at h
  .rename_i x;cases a:Nat.ble x.length 16384 with
   |true=>
    rw[a]at h;simp only[aC0,aCz,aC6]at h;obtain⟨rfl,rfl⟩:=h;exact aRs x (by have:=aCM a;omega)
   |false=>rw[a]at h;exact MF _ _ _ _ _ h
  .exact MF _ _ _ _ _ h
 |false=>
  rw[h1]at h;cases b:Nat.beq f 273 with
  |false=>rw[b]at h;exact MF _ _ _ _ _ h
  |true=>
   have e:=aCG b;subst e;rw[b]at h;simp only[aC0,aDy]at h;split at h
   .rename_i x c;simp only[aCz,aC6]at h;obtain⟨rfl,rfl⟩:=h;exact am8 an5 an4
   .exact MF _ _ _ _ _ h
def aHM(k:Int)(f:ax)(b:List D)(s:Int)(d:List D)(c:Int)(a fZ:ax)(e:List D):D:=
 .agg [int k,.str f,.list 2 b,int s,int 0,int 0,.list 4 d,int c,.str a,.list 16 [],int 0,.str [],int 0,int 0,.str [],.str [],.list 7 [],.list 1 [],.list 7 [],.list 2 [],.list 3 [],.list 2 [],int 0,.str fZ,.list 1 e]
def aHe(a:ax):D:=aHM 1 a [.agg [.str [97],int 1]] 5 [] 0 [] [] []
def aHx:D:=aHM 2 [121] [] 5 [.agg [.str [120],int 1,int 0,.str [120]]] 1 [120] [] []
def aIO(a:ax):D:=aHM 3 a [] 0 [] 0 [] [42,32,42,32,42,32,42,32,42] [.str [121]]
def aGp(i:Nat):ax:=[UInt8.ofNat (97+i/20),UInt8.ofNat (97+i%20)]
def aHj(a:ax):ax:=[115,111,117,114,99,101,32]++(a++[32,40,97,32,105,110,116,41,32,115,116,97,116,105,99,32,48,46,46,48,59,10])
def aHy:ax:=[97,115,115,101,116,32,121,32,115,116,97,116,105,99,32,48,46,46,48,32,102,114,111,109,32,120,32,115,97,109,101,32,97,115,32,120,32,100,111,32,120,59,10]
def aRu(a:ax):ax:=[115,99,104,101,100,117,108,101,32]++(a++[32,34,42,32,42,32,42,32,42,32,42,34,32,109,97,107,101,115,32,121,59,10])
def one(b:Bool)(a:ax):D:=cond b (aIO a) (aHe a)
def aGw(b:Bool)(a:ax):ax:=cond b (aRu a) (aHj a)
def aG8:Nat->Nat->List Nat
 |0,_=>[]
 |n+1,i=>i::aG8 n (i+1)
def aHO(b:Bool)(n:Nat):List D:=cond b [aHe [120],aHx] []++(aG8 n 0).map λi=>one b (aGp i)
def txt(b:Bool)(n:Nat):ax:=cond b (aHj [120]++aHy) []++((aG8 n 0).map λi=>aGw b (aGp i)).flatten
def aGy(b:Bool)(n:Nat):ah:=.tuple [.d (.list 25 (aHO b n)),.d (int (txt b n).length),.d (int 0)]
def aGx(b:Bool)(n:Nat):List ah:=[.d (.str (txt b n))]
def aGC(b:Bool)(n:Nat):ah:=.tuple [.d (.str (txt b n)),.d (int 0)]
def aGB(b:Bool)(n:Nat):List ah:=[.d (.list 25 (aHO b n))]
def aGN(i:Nat):ah:=.d (int i)
def aIP(f:ax)(g:Bool)(b e:List D)(d:Nat)(a c:ax):List ah:=
 [.d (.str f),.d (.bool g),.d (.list 2 b),aGN 5,aGN 0,aGN 0,.d (.list 4 e),aGN d,.d (.str a),.d (.list 16 []),aGN 0,.d (.str []),aGN 0,aGN 0,.d (.str []),.d (.str []),.d (.list 7 []),.d (.list 1 []),.d (.list 7 []),.d (.list 2 []),.d (.list 3 []),.d (.list 2 []),aGN 0,.d (.str c)]
def aGz:List D:=[.agg [.str [97],int 1]]
def aIQ(a:ax):List ah:=aIP a true aGz [] 0 [] (aHj a)
def aRv(a:List D):List ah:=aIP [121] false a [.agg [.str [120],int 1,int 0,.str [120]]] 1 [120] aHy
def u64(n:Int):ah:=.d (.int .u64 n)
def aRw(t:Bool)(a:ax):List ah:=.d (.str a)::cond t
 ([u64 1152921504606846975,u64 16777215,u64 4294967294,u64 8190,u64 127]++List.replicate 5 (.d (.bool true))++[.own 1 [int 1]])
 (List.replicate 5 (u64 0)++List.replicate 5 (.d (.bool false))++[.own 1 []])
def pF(b:Bool)(n:Nat):Nat:=cond b 2 n
def aHP(b:Bool)(n:Nat)(g p:ah):cc:=
 .box [.d (.list 25 (aHO b n)),.d (.str (txt b n)),.aP 1 0 (pF b n) (pF b n) 24,.own 1 ((aG8 (pF b n) 0).map λ(i:Nat)=>int i),cond b (.aP 2 0 n n 12) (.own 12 []),g,p]
def aHQ(b:Bool)(n:Nat)(a:List D):cc:=.box (cond b (aIQ [120]++aRv a) ((aG8 n 0).map λi=>aIQ (aGp i)).flatten)
def aHR(b:Bool)(n:Nat)(t:Bool):List cc:=cond b [.box ((aG8 n 0).map λi=>aRw t (aGp i)).flatten] []
def R2(b:Bool)(n:Nat)(t:Bool):aY:=[aHP b n (.d .dJ) (.d .h9),aHQ b n []]++aHR b n t
def aHf(b:Bool)(n k:Nat):ah:=.aP k 0 (pF b n) (pF b n) 1
def aIR(b:Bool)(n:Nat):List cc:=[.box (cond b [.d (.list 1 []),.d (.list 1 [int 0])] (List.replicate n (.d (.list 1 [])))),.box (cond b [.own 1 [int 1],.own 1 []] (List.replicate n (.own 1 []))),.box (cond b [aGN 0,aGN 1] (List.replicate n (aGN 0)))]
def aIS(b:Bool)(n:Nat):cc:=.map (cond b [(.str [120],aGN 0),(.str [121],aGN 1)] ((aG8 n 0).map λi=>(.str (aGp i),aGN i)))
def k2(b:Bool):Nat:=cond b 3 2
def aGA(b:Bool)(n:Nat):aY:=[aHP b n (.ptr (k2 b+3) 0) (.map (k2 b+5)),aHQ b n []]++aHR b n true++aIR b n++[.box [aHf b n (k2 b),aHf b n (k2 b+1),aHf b n (k2 b+2)],.box [.ptr (k2 b+3) 0],aIS b n]
def aGq(b:Bool)(n:Nat)(a:List D):aY:=[aHP b n (.ptr (k2 b) 0) (.map (k2 b+1)),aHQ b n a]++aHR b n true++[.box [aHf b n (k2 b+2),aHf b n (k2 b+3),aHf b n (k2 b+4)],aIS b n]++aIR b n
def aGo:ah:=.tuple [aGN 0,aGN 0]
def aHS:ax:=[115,111,117,114,99,101,32,120,32,40,97,32,105,110,116,41,32,115,116,97,116,105,99,32,48,46,46,48,59,32,97,115,115,101,116,32,121,32,115,116,97,116,105,99,32,48,46,46,48,32,102,114,111,109,32,120,32,115,97,109,101,32,97,115,32,120,32,100,111,32,120,59]
def aIT:ax:=[115,111,117,114,99,101,32,120,32,40,97,32,105,110,116,41,32,115,116,97,116,105,99,32,48,46,46,48,59,32,115,99,104,101,100,117,108,101,32,120,32,34,42,32,42,32,42,32,42,32,42,34,32,109,97,107,101,115,32,121,59]
def aHT:Nat->Option aW:=λf=>cond (Nat.beq f 5) (some aIF) (tab f)
theorem aRx:wk a1 aHT:=by
 intro f a h;unfold aHT at h;cases h1:Nat.beq f 5 with
 |false=>rw[h1]at h;exact uZ f a h
 |true=>
  rw[h1]at h;obtain rfl:=aCG h1;obtain rfl:=aDM h;exact aJD
def ht(x:ax):D:=match aoN (qy x)with
 |.tuple (.d d::_)=>d
 |_=>.dJ
def n6:D->List ah
 |.agg l=>l.map .d
 |_=>[]
def aIU:aY:=[.box [.d (ht aHS),aGN 25,aGN 72,aGN 0,aGN 0,aGN 72],.dead,.box (n6 (aHe [120])++n6 aHx)]
def r0:ah:=.tuple [.aP 2 0 2 2 25,aGN 72,aGN 0]
def cq:ah:=.tuple [.d (.list 25 [aHe [120],aIO [120]]),aGN 61,aGN 0]
def aIV:ah:=.tuple [.d (.agg [.int .u64 1152921504606846975,.int .u64 16777215,.int .u64 4294967294,.int .u64 8190,.int .u64 127,.bool true,.bool true,.bool true,.bool true,.bool true]),aGN 0]
def aIW:List ah:=[.d (.str [42,32,42,32,42,32,42,32,42])]
def EY(d:D):List ah:=[.d (.list 25 [d])]
def aGv(t:ax):ah:=.tuple [.d (.str t),aGN 0]
theorem c0:rK aG0 aHT gl 1000 60 5 [.d (.str aHS)] []=some (r0,aIU):=az5
theorem c2:rK aG0 tab gl 1000 60 5 [.d (.str aIT)] []=some (cq,[]):=az5
theorem fZ:rK aG0 tab gl 1000 60 75 aIW []=some (aIV,[]):=az5
theorem BH:rK aG0 tab gl 1000 60 4 [] []=some (.d (.bool true),[]):=az5
theorem aRy:rK aG0 tab gl 1000 60 15 (EY (aHe [120])) []=some (aGv (aHj [120]),[]):=az5
theorem aRz:rK aG0 tab gl 1000 60 15 (EY aHx) []=some (aGv aHy,[]):=az5
def n8:Nat->List ah->aY->Out:=uS 5 [.d (.str aHS)] [] r0 aIU (uS 5 [.d (.str aIT)] [] cq [] (uS 4 [] [] (.d (.bool true)) [] (uS 75 aIW [] aIV [] (uS 15 (EY (aHe [120])) [] (aGv (aHj [120])) [] (uS 15 (EY aHx) [] (aGv aHy) [] aG0)))))
theorem snd{e:Nat->List ah->aY->Out}{t:Nat->Option aW}(b:hP a1 gl e)(a:wk a1 t){f:Nat}{args:List ah}{s s':aY}{r:ah}(h:rK e t gl 1000 60 f args s=some (r,s')):aL f args s r s':=uT b a 60 _ _ _ _ _ h
theorem aGt:hP a1 gl n8:=yf (yf (yf (yf (yf (yf aG4 (snd aG4 uZ aRz)) (snd aG4 uZ aRy)) (snd aG4 uZ fZ)) (snd aG4 uZ BH)) (snd aG4 uZ c2)) (snd aG4 aRx c0)
def aHU(b:Bool):Nat->(Nat->List ah->aY->Out)->(Nat->List ah->aY->Out)
 |0,B=>B
 |k+1,B=>uS 15 (EY (one b (aGp k))) [] (aGv (aGw b (aGp k))) [] (aHU b k B)
theorem aIX{b:Bool}{B:Nat->List ah->aY->Out}(a:hP a1 gl B):∀n,(∀k,k<n->aL 15 (EY (one b (aGp k))) [] (aGv (aGw b (aGp k))) [])->hP a1 gl (aHU b n B)
 |0,_=>a
 |n+1,h=>yf (aIX a n λk c=>h k (Nat.lt_succ_of_lt c)) (h n (aFd n))
def aGD(b:Bool)(n:Nat):Nat->List ah->aY->Out:=uS 5 (aGx b n) [] (aGy b n) [] n8
def X(b:Bool)(n:Nat):Nat->List ah->aY->Out:=uS 17 [.ptr 0 0] (R2 b n false) aGo (R2 b n true) (uS 18 [.ptr 0 0] (R2 b n true) aGo (aGA b n) (uS 19 [.ptr 0 0] (aGq b n []) aGo (aGq b n (cond b aGz [])) (uS 15 (aGB b n) [] (aGC b n) [] (uS 5 (aGx b n) [] (aGy b n) [] (aHU b n n8)))))
def aGu(b:Bool)(n:Nat):List ah:=[.d (.int .i64 (.ofNat n)),.d (.bool b)]
def aHr(b:Bool)(n:Nat):Prop:=aL 3 (aGu b n) [] (.d (.bool true)) []
theorem aGE{b:Bool}{n:Nat}(a:∀k,k<n->aL 15 (EY (one b (aGp k))) [] (aGv (aGw b (aGp k))) [])
  (p:rK n8 tab gl 1000 60 5 (aGx b n) []=some (aGy b n,[]))
  (s:rK (aGD b n) tab gl 1000 60 15 (aGB b n) []=some (aGC b n,[]))
  (f:rK n8 tab gl 1000 60 17 [.ptr 0 0] (R2 b n false)=some (aGo,R2 b n true))
  (o:rK n8 tab gl 1000 60 18 [.ptr 0 0] (R2 b n true)=some (aGo,aGA b n))
  (t:rK n8 tab gl 1000 60 19 [.ptr 0 0] (aGq b n [])=some (aGo,aGq b n (cond b aGz [])))
  (l:rK (X b n) tab gl 1000 60 3 (aGu b n) []=some (.d (.bool true),[])):aHr b n:=by
 have p:=snd aGt uZ p;have s:=snd (yf aGt p) uZ s;exact snd (yf (yf (yf (yf (yf (aIX aGt n a) p) s) (snd aGt uZ t)) (snd aGt uZ o)) (snd aGt uZ f)) uZ l
theorem aQ7(i:Int)(b:Bool)(h:i<1\/40<i):aL 3 [.d (int i),.d (.bool b)] [] (.d (.bool true)) []:=by
 have a:aL 4 [] [] (.d (.bool true)) []:=snd aG4 uZ BH;refine aH5.hB ?_;refine db ?_;cases h1:decide (i<1)with
 |true=>
  refine db ?_;refine c6 (a) ?_;refine db ?_;exact⟨az5,az5⟩
 |false=>
  have c:decide (40<i)=true:=by
   have:=of_decide_eq_false h1;exact aCI az6
  refine db ?_;simp only[c];refine db ?_;refine c6 (a) ?_;refine db ?_;exact⟨az5,az5⟩
end Go.Proofs.YtdfonihgkhbpcaaGreatDoor
