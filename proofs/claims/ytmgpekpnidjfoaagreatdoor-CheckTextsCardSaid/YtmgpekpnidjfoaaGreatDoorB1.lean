/- Part of texts_said. -/
import Derived.Test.YtmgpekpnidjfoaaGreatDoorD
set_option maxRecDepth 100000
set_option maxHeartbeats 8000000
set_option linter.unusedSimpArgs false
set_option linter.unusedVariables false
namespace Go.Proofs.YtmgpekpnidjfoaaGreatDoor
open Go Go.aJ
attribute [local irreducible] bM
abbrev ax:=List UInt8
abbrev int(n:Int):D:=.int .i64 n
def Cs(c:UInt8):Bool:=decide (97<=c.toNat)&&decide (c.toNat<=122)
def jA(c:UInt8):Bool:=decide (48<=c.toNat)&&decide (c.toNat<=57)
def mH(c:UInt8):Bool:=Cs c||jA c||decide (c.toNat=95)
def nc(c:UInt8):Bool:=!decide (c.toNat=10)
theorem FK:gT a1.prog gl (nT ext tab gl 1000 60):=pA K6 pK 60
theorem amm(c:UInt8):aM 149 [.d (gj c)] [] (.d (.bool (Cs c))) []:=Fe FK axr c
theorem aas(c:UInt8):aM 151 [.d (gj c)] [] (.d (.bool (jA c))) []:=Fe FK axr c
theorem amn(c:UInt8):aM 150 [.d (gj c)] [] (.d (.bool (mH c))) []:=Fe FK axr c
theorem amo(c:UInt8):aM 148 [.d (gj c)] [] (.d (.bool (nc c))) []:=Fe FK axr c
def eO(p:UInt8->Bool):ax->Nat
 |[]=>0
 |c::l=>cond (p c) (eO p l+1) 0
theorem zt(p:UInt8->Bool):∀l:ax,eO p l<=l.length
 |[]=>azI _
 |c::l=>by
  simp only[eO,az0];cases p c with
  |true=>simp_all[zt]
  |false=>simp
theorem aat{p:UInt8->Bool}{s:ax}{i:Nat}(h:i<s.length):eO p (s.drop i)=cond (p s[i]) (eO p (s.drop (i+1))+1) 0:=by
 rw[aAI h];rfl
theorem nf{i:Nat}(h:i<4611686018427387904):IntKind.i64.wrap ((i:Int)+1)=((i+1:Nat):Int):=ayG
theorem getD_at{s:ax}{i:Nat}(h:i<s.length):s.getD (Int.toNat (i:Int)) 0=s[i]:=axu
section
attribute [local irreducible] Int.decLt Int.decLe Int.instDecidableEq IntKind.wrap instDecidableEqList
def aau(s:ax)(g:Nat)(i:Int):af:=cA [(0,.d (.str s)),(1,.d (int i)),(2,.d (.fn g))] []
theorem Ln(s:ax)(k:Nat)(g:Nat)(p:UInt8->Bool)(aE:∀c,aM g [.d (gj c)] [] (.d (.bool (p c))) [])(au:k<=s.length)(hs:s.length<=1073741824):
  aM 147 [.d (.str s),.d (int k),.d (.fn g)] [] (.d (int ((k+eO p (s.drop k):Nat):Int))) []:=by
 refine Tz.fh ?_;conv=>whnf
 refine⟨axr,?_⟩;refine⟨λn st=>∃i:Nat,i<=s.length/\n=s.length-i/\i+eO p (s.drop i)=k+eO p (s.drop k)/\st=aau s g i,s.length-k,⟨k,au,rfl,rfl,axr⟩,?_⟩;rintro _ _ ⟨i,hi,rfl,aw,rfl⟩;refine bj ?_;first|refine eJ (λh=> ?_) (λh=> ?_)|((refine eE (λh=> ?_) (λh=> ?_))<;>(try simp only[azL]at h))
 .have cG:i<s.length:=by simp_all
  conv=>whnf
  repeat ((first|refine e3 ?_|refine e2 ?_);conv=>whnf)
  refine⟨axu,?_⟩;rw[getD_at cG];refine bj ?_;refine⟨_,_,aE s[i],?_⟩;refine bj ?_;first|refine eJ (λh2=> ?_) (λh2=> ?_)|((refine eE (λh2=> ?_) (λh2=> ?_))<;>(try simp only[azL]at h2))
  .refine bj ?_;have av:eO p (s.drop i)=eO p (s.drop (i+1))+1:=by grind[aat]
   exact⟨s.length-(i+1),axs,i+1,axs,rfl,axs,congrArg (aau s g) (nf axs)⟩
  .refine bj ?_;have av:eO p (s.drop i)=0:=by grind[aat]
   refine⟨congrArg (λn:Nat=>ag.d (int (n:Int))) (show i=k+eO p (s.drop k)by omega),axr⟩
 .refine bj ?_;have cG:¬i<s.length:=axu;have av:eO p (s.drop i)=0:=by rw[aAY axs];rfl
  refine⟨congrArg (λn:Nat=>ag.d (int (n:Int))) (show i=k+eO p (s.drop k)by omega),axr⟩
end
def tJ(c:UInt8):Bool:=decide ((c.toNat:Int)=32)||decide ((c.toNat:Int)=9)||decide ((c.toNat:Int)=10)
def eS:Bool->ax->Nat
 |_,[]=>0
 |true,c::l=>cond (nc c) (eS true l+1) (eS false l+1)
 |false,c::l=>cond (tJ c) (eS false l+1) (cond (decide ((c.toNat:Int)=35)) (eS true l+1) 0)
theorem zu:∀(b:Bool) (l:ax),eS b l<=l.length
 |b,[]=>by cases b<;>exact azI _
 |true,c::l=>by
  have h1:=zu true l;have h2:=zu false l;simp only[eS,az0];grind
 |false,c::l=>by
  have h1:=zu true l;have h2:=zu false l;simp only[eS,az0];grind
theorem aav:∀l:ax,eS true l=eO nc l+eS false (l.drop (eO nc l))
 |[]=>rfl
 |c::l=>by
  simp only[eS,eO];cases ay:nc c with
  |true=>
   simp only[azL,aBW];rw[aav l];omega
  |false=>
   simp_all[eS,tJ,nc]
theorem amp{c:UInt8}{l:ax}(h:tJ c=false)(h2:(c.toNat:Int)=35):eS false (c::l)=eO nc (c::l)+eS false ((c::l).drop (eO nc (c::l)))/\1<=eO nc (c::l):=by
 have az:nc c=true:=by
  grind[nc]
 simp only[eS,h,h2,decide_true,azL,az7,eO,az,aBW];grind[aav]
section
attribute [local irreducible] Int.decLt Int.decLe Int.instDecidableEq IntKind.wrap instDecidableEqList
def FL(s:ax)(i:Int):af:=cA [(0,.d (.str s)),(1,.d (int i))] []
theorem aaw(s:ax)(k:Nat)(au:k<=s.length)(hs:s.length<=1073741824):aM 90 [.d (.str s),.d (int k)] [] (.d (int ((k+eS false (s.drop k):Nat):Int))) []:=by
 refine Tb.fh ?_;conv=>whnf
 refine⟨axr,?_⟩;refine⟨λn st=>∃i:Nat,i<=s.length/\n=s.length-i/\i+eS false (s.drop i)=k+eS false (s.drop k)/\st=FL s i,s.length-k,⟨k,au,rfl,rfl,axr⟩,?_⟩;rintro _ _ ⟨i,hi,rfl,aw,rfl⟩;refine bj ?_;first|refine eJ (λh=> ?_) (λh=> ?_)|((refine eE (λh=> ?_) (λh=> ?_))<;>(try simp only[azL]at h))
 .have cG:i<s.length:=by simp_all
  have a6:=aAI cG;conv=>whnf
  repeat ((first|refine e3 ?_|refine e2 ?_);conv=>whnf)
  refine⟨axv,?_⟩;rw[getD_at cG];have step1:tJ s[i]=true->∃m,m<s.length-i/\∃j:Nat,j<=s.length/\m=s.length-j/\j+eS false (s.drop j)=k+eS false (s.drop k)/\FL s (IntKind.i64.wrap ((i:Int)+1))=FL s j:=by
   intro aq;have:eS false (s.drop i)=eS false (s.drop (i+1))+1:=by rw[a6];simp only[eS,aq,azL]
   exact⟨s.length-(i+1),axs,i+1,axs,rfl,axs,congrArg (FL s) (nf axs)⟩
  refine bj ?_;first|refine eJ (λh1=> ?_) (λh1=> ?_)|((refine eE (λh1=> ?_) (λh1=> ?_))<;>(try simp only[azL]at h1))
  .refine bj ?_;exact step1 (by grind[tJ])
  .refine bj ?_;first|refine eJ (λh2=> ?_) (λh2=> ?_)|((refine eE (λh2=> ?_) (λh2=> ?_))<;>(try simp only[azL]at h2))
   .refine bj ?_;exact step1 (by grind[tJ])
   .refine bj ?_;first|refine eJ (λav=> ?_) (λav=> ?_)|((refine eE (λav=> ?_) (λav=> ?_))<;>(try simp only[azL]at av))
    .refine bj ?_;exact step1 (by grind[tJ])
    .have aq:tJ s[i]=false:=by grind[tJ]
     refine bj ?_;first|refine eJ (λaZ=> ?_) (λaZ=> ?_)|((refine eE (λaZ=> ?_) (λaZ=> ?_))<;>(try simp only[azL]at aZ))
     .refine bj ?_;have ay:=Ln s i 148 nc amo hi hs;refine⟨_,_,ay,?_⟩;refine bj ?_;have Lo:((s[i]).toNat:Int)=35:=of_decide_eq_true aZ;have aE:=amp (l:=s.drop (i+1)) aq Lo;rw[<-a6,aBT]at aE;have hle:=zt nc (s.drop i);rw[aBn]at hle;exact⟨s.length-(i+eO nc (s.drop i)),axs,i+eO nc (s.drop i),axs,rfl,axs,axr⟩
     .refine bj ?_;have:eS false (s.drop i)=0:=by rw[a6];simp only[eS,aq,aZ,az7]
      refine⟨congrArg (λn:Nat=>ag.d (int (n:Int))) (show i=k+eS false (s.drop k)by omega),axr⟩
 .refine bj ?_;have cG:¬i<s.length:=axu;have:eS false (s.drop i)=0:=by rw[aAY axs];rfl
  refine⟨congrArg (λn:Nat=>ag.d (int (n:Int))) (show i=k+eS false (s.drop k)by omega),axr⟩
end
def kX:ax->Option Nat
 |[]=>none
 |c::l=>cond (decide ((c.toNat:Int)=92)) (match l with
   |[]=>none
   |_::bC=>(kX bC).map (·+2))
  (cond (decide ((c.toNat:Int)=34)) (some 1) ((kX l).map (·+1)))
theorem FM:∀(n:Nat) (l:ax),l.length<=n->∀m,kX l=some m->1<=m/\m<=l.length:=by
 intro n;induction n with
 |zero=>
  grind[kX]
 |succ n ih=>
  intro l aH m h;cases l with
  |nil=>grind
  |cons c l=>
   unfold kX at h;cases h1:decide ((c.toNat:Int)=92)with
   |true=>
    rw[h1]at h;simp only[azL]at h;grind[Option.map_eq_some_iff]
   |false=>
    rw[h1]at h;simp only[az7]at h;cases h2:decide ((c.toNat:Int)=34)with
    |true=>simp_all
    |false=>
     rw[h2]at h;simp only[az7,aAt]at h;grind
def u'(k:Nat):Option Nat->Int
 |some n=>((k+n:Nat):Int)
 |none=> -1
theorem aax(k m:Nat)(o:Option Nat):u' k (o.map (·+m))=u' (k+m) o:=by
 cases o with
 |none=>rfl
 |some n=>grind[u']
section
attribute [local irreducible] Int.decLt Int.decLe Int.instDecidableEq IntKind.wrap instDecidableEqList
def FN(s:ax)(i:Int):af:=cA [(0,.d (.str s)),(5,.d (int i))] []
theorem amq(s:ax)(k:Nat)(au:k<s.length)(hs:s.length<=1073741824):aM 153 [.d (.str s),.d (int k)] [] (.d (int (u' (k+1) (kX (s.drop (k+1)))))) []:=by
 refine YW.fh ?_;refine bj ?_;refine⟨λn st=>∃i:Nat,i<=s.length+1/\n=s.length+1-i/\u' i (kX (s.drop i))=u' (k+1) (kX (s.drop (k+1)))/\st=FN s i,s.length-k,⟨k+1,axs,axs,rfl,congrArg (FN s) (nf axs)⟩,?_⟩;rintro _ _ ⟨i,hi,rfl,aw,rfl⟩;refine bj ?_;first|refine eJ (λh=> ?_) (λh=> ?_)|((refine eE (λh=> ?_) (λh=> ?_))<;>(try simp only[azL]at h))
 .have cG:i<s.length:=by simp_all
  have a6:=aAI cG;conv=>whnf
  repeat ((first|refine e3 ?_|refine e2 ?_);conv=>whnf)
  refine⟨axv,?_⟩;rw[getD_at cG];refine bj ?_;first|refine eJ (λh1=> ?_) (λh1=> ?_)|((refine eE (λh1=> ?_) (λh1=> ?_))<;>(try simp only[azL]at h1))
  .refine bj ?_;refine⟨s.length+1-(i+2),axs,i+2,axs,rfl,?_,?_⟩
   .rw[<-aw,a6];conv=>rhs;unfold kX
    rw[h1];simp only[azL];by_cases h2:i+1<s.length
    .rw[aAI h2];simp only;rw[aax]
    .rw[aAY axs,aAY axs];rfl
   .exact congrArg (FN s) ((congrArg (λn=>IntKind.i64.wrap (n+1)) (nf (show i<4611686018427387904 by omega))).trans (nf (show i+1<4611686018427387904 by omega)))
  .refine bj ?_;first|refine eJ (λh2=> ?_) (λh2=> ?_)|((refine eE (λh2=> ?_) (λh2=> ?_))<;>(try simp only[azL]at h2))
   .refine bj ?_;refine⟨?_,axr⟩;refine azK (congrArg (λn=>ag.d (int n)) (nf (show i<4611686018427387904 by omega))) (congrArg (λn=>ag.d (int n)) ?_);rw[<-aw,a6];unfold kX;rw[h1,h2];rfl
   .refine bj ?_;refine⟨s.length+1-(i+1),axs,i+1,axs,rfl,?_,congrArg (FN s) (nf axs)⟩;rw[<-aw,a6];conv=>rhs;unfold kX
    rw[h1,h2];simp only[az7];rw[aax]
 .refine bj ?_;have cG:¬i<s.length:=axu;refine⟨congrArg (λn=>ag.d (int n)) ?_,axr⟩;rw[<-aw,aAY axs];rfl
end
theorem Lp:∀l:ax,oc (l.map gj)=some l
 |[]=>rfl
 |c::t=>by
  show(match oc (t.map gj)with|some s=>some (UInt8.ofNat (Int.toNat (c.toNat:Int))::s)|none=>none)=_;rw[Lp t];simp
theorem getD_map{α:Type}{f:α->D}{d:D}{l:List α}{i:Nat}(h:i<l.length):(l.map f).getD (Int.toNat (i:Int)) d=f l[i]:=axu
def lu:Bool->ax->ax
 |_,[]=>[]
 |e,c::l=>cond (decide ((c.toNat:Int)=92)&&!e) (lu true l) (c::lu false l)
def lY:ax->ax
 |[]=>[]
 |c::l=>cond (decide ((c.toNat:Int)=34)||decide ((c.toNat:Int)=92)) (92::c::lY l) (c::lY l)
theorem aay:∀l:ax,(lY l).length<=2*l.length
 |[]=>azI _
 |c::l=>by
  have:=aay l;simp only[lY];grind
def r5(c:UInt8):Bool:=!(decide ((c.toNat:Int)<32)||decide ((126:Int)<c.toNat))
def xd(s:ax):Bool:=s.all r5&&decide ((s.length:Int)<=64)
section
attribute [local irreducible] Int.decLt Int.decLe Int.instDecidableEq IntKind.wrap instDecidableEqList
def bl(s:ax):D:=.list 1 (s.map gj)
def xe(s o:ax)(e:Bool)(n i:Int):af:=cA [(3,.own 1 (o.map gj)),(4,.d (.bool e)),(8,.d (bl s)),(9,.d (int n)),(10,.d (int i))] []
theorem amr(s:ax)(hs:s.length<=1073741824):aM 187 [.d (.str s)] [] (.d (.str (lu false s))) []:=by
 refine Xb.fh ?_;refine bj ?_;refine⟨λn st=>∃(i:Nat) (o:ax) (e:Bool),i<=s.length/\n=s.length-i/\o.length<=i/\o++lu e (s.drop i)=lu false s/\st=xe s o e s.length i,s.length,⟨0,[],false,axs,rfl,azI _,rfl,?_⟩,?_⟩
 .exact congrArg (λk=>xe s [] false k 0) axt
 rintro _ _ ⟨i,o,e,hi,rfl,bb,aw,rfl⟩;refine bj ?_;first|refine eJ (λh=> ?_) (λh=> ?_)|((refine eE (λh=> ?_) (λh=> ?_))<;>(try simp only[azL]at h))
 .have cG:i<s.length:=by simp_all
  have a6:=aAI cG;conv=>whnf
  repeat ((first|refine e3 ?_|refine e2 ?_);conv=>whnf)
  refine⟨axD,?_⟩;rw[getD_map cG];refine bj ?_;first|refine eJ (λh1=> ?_) (λh1=> ?_)|((refine eE (λh1=> ?_) (λh1=> ?_))<;>(try simp only[azL]at h1))
  .refine bj ?_;cases e with
   |true=>
    conv=>whnf
    repeat ((first|refine e3 ?_|refine e2 ?_);conv=>whnf)
    refine⟨axD,?_⟩;refine bj ?_;refine⟨s.length-(i+1),axs,i+1,o++[s[i]],false,axs,rfl,axu,?_,?_⟩
    .grind[lu]
    .refine azK ?_ (congrArg (xe s (o++[s[i]]) false s.length) (nf (show i<4611686018427387904 by omega)));unfold xe;rw[az5];rfl
   |false=>
    refine bj ?_;refine⟨s.length-(i+1),axs,i+1,o,true,axs,rfl,axs,?_,congrArg (xe s o true s.length) (nf axs)⟩;rw[<-aw,a6];simp_all[lu]
  .conv=>whnf
   repeat ((first|refine e3 ?_|refine e2 ?_);conv=>whnf)
   refine⟨axD,?_⟩;refine bj ?_;refine⟨s.length-(i+1),axs,i+1,o++[s[i]],false,axs,rfl,axv,?_,?_⟩
   .rw[<-aw,a6];simp only[lu,h1,aCp,az7,aAJ,List.singleton_append]
   .refine azK ?_ (congrArg (xe s (o++[s[i]]) false s.length) (nf (show i<4611686018427387904 by omega)));unfold xe;rw[az5];rfl
 .conv=>whnf
  repeat ((first|refine e3 ?_|refine e2 ?_);conv=>whnf)
  have cG:¬i<s.length:=axu;have kP:o=lu false s:=by grind[lu]
  simp only[Lp];refine bj ?_;exact⟨by rw[<-kP];rfl,axr⟩
theorem Lq(s:ax):aM 64 [.d (.str s)] [] (.d (.agg [int 2,int 0,.str s])) []:=by
 refine Wq.fh ?_;refine bj ?_;exact⟨axr,axr⟩
theorem Lr:aM 186 [] [] (.d (.agg [int 0,int 0,.str []])) []:=by
 refine Vs.fh ?_;refine bj ?_;exact⟨axr,axr⟩
theorem aaz(n:Int):aM 188 [.d (int n)] [] (.d (.agg [int 1,int n,.str []])) []:=by
 refine Vu.fh ?_;refine bj ?_;exact⟨axr,axr⟩
def Ls(s:ax)(n i:Int):af:=cA [(0,.d (.str s)),(6,.d (bl s)),(7,.d (int n)),(8,.d (int i))] []
theorem aaA(s:ax)(hs:s.length<=1073741824):aM 168 [.d (.str s)] [] (.d (.bool (xd s))) []:=by
 refine TJ.fh ?_;refine bj ?_;refine⟨λn st=>∃i:Nat,i<=s.length/\n=s.length-i/\(s.drop i).all r5=s.all r5/\st=Ls s s.length i,s.length,⟨0,axs,rfl,rfl,congrArg (λk=>Ls s k 0) axt⟩,?_⟩;rintro _ _ ⟨i,hi,rfl,aw,rfl⟩;refine bj ?_;first|refine eJ (λh=> ?_) (λh=> ?_)|((refine eE (λh=> ?_) (λh=> ?_))<;>(try simp only[azL]at h))
 .have cG:i<s.length:=by simp_all
  have a6:=aAI cG;conv=>whnf
  repeat ((first|refine e3 ?_|refine e2 ?_);conv=>whnf)
  refine⟨axD,?_⟩;rw[getD_map cG];refine bj ?_;have no:r5 s[i]=false->ag.d (D.bool false)=ag.d (D.bool (xd s)):=by
   grind[xd]
  have yes:r5 s[i]=true->(s.drop (i+1)).all r5=s.all r5:=axv;first|refine eJ (λh1=> ?_) (λh1=> ?_)|((refine eE (λh1=> ?_) (λh1=> ?_))<;>(try simp only[azL]at h1))
  .refine bj ?_;exact⟨no (by grind[r5]),axr⟩
  .refine bj ?_;first|refine eJ (λh2=> ?_) (λh2=> ?_)|((refine eE (λh2=> ?_) (λh2=> ?_))<;>(try simp only[azL]at h2))
   .refine bj ?_;exact⟨no (by grind[r5]),axr⟩
   .refine bj ?_;exact⟨s.length-(i+1),axs,i+1,axs,rfl,yes (by grind[r5]),congrArg (Ls s s.length) (nf axs)⟩
 .refine bj ?_;have cG:¬i<s.length:=axu;rw[aAY axs]at aw;refine⟨?_,axr⟩;unfold xd;rw[<-aw];rfl
def zv(s o:ax)(n i:Int):af:=cA [(3,.own 1 (o.map gj)),(8,.d (bl s)),(9,.d (int n)),(10,.d (int i))] []
theorem aaB(s:ax)(hs:s.length<=1073741824):aM 109 [.d (.str s)] [] (.d (.str (34::(lY s++[34])))) []:=by
 refine WL.fh ?_;refine bj ?_;refine⟨λn st=>∃(i:Nat) (o:ax),i<=s.length/\n=s.length-i/\o.length<=2*i+1/\o++lY (s.drop i)=34::lY s/\st=zv s o s.length i,s.length,⟨0,[34],axs,rfl,azI _,rfl,congrArg (λk=>zv s [34] k 0) axt⟩,?_⟩;rintro _ _ ⟨i,o,hi,rfl,bb,aw,rfl⟩;have app:∀(a b:ax),cA [(3,.own 1 ((o++a).map gj++b.map gj)),(8,.d (bl s)),(9,.d (int s.length)),(10,.d (int ((i+1:Nat):Int)))] []=zv s (o++a++b) s.length ((i+1:Nat):Int):=by
  grind[zv]
 refine bj ?_;first|refine eJ (λh=> ?_) (λh=> ?_)|((refine eE (λh=> ?_) (λh=> ?_))<;>(try simp only[azL]at h))
 .have cG:i<s.length:=by simp_all
  have a6:=aAI cG;conv=>whnf
  repeat ((first|refine e3 ?_|refine e2 ?_);conv=>whnf)
  refine⟨axD,?_⟩;rw[getD_map cG];refine bj ?_;have aaC:(decide (((s[i]).toNat:Int)=34)||decide (((s[i]).toNat:Int)=92))=true->(o++[92]++[s[i]])++lY (s.drop (i+1))=34::lY s:=by
   intro aT;rw[<-aw,a6];simp only[lY,aT,azL,aAJ,aBf,aAO]
  first|refine eJ (λh1=> ?_) (λh1=> ?_)|((refine eE (λh1=> ?_) (λh1=> ?_))<;>(try simp only[azL]at h1))
  .conv=>whnf
   repeat ((first|refine e3 ?_|refine e2 ?_);conv=>whnf)
   refine⟨axD,?_⟩;conv=>whnf
   repeat ((first|refine e3 ?_|refine e2 ?_);conv=>whnf)
   refine⟨axD,?_⟩;refine bj ?_;refine⟨s.length-(i+1),axs,i+1,o++[92]++[s[i]],axs,rfl,axv,aaC axv,?_⟩;refine azK ?_ (azK (congrArg (λk=>cA [(3,.own 1 ((o++[92]).map gj++[s[i]].map gj)),(8,.d (bl s)),(9,.d (int s.length)),(10,.d (int k))] []) (nf (show i<4611686018427387904 by omega))) (app [92] [s[i]]));rw[az5];rfl
  .refine bj ?_;first|refine eJ (λh2=> ?_) (λh2=> ?_)|((refine eE (λh2=> ?_) (λh2=> ?_))<;>(try simp only[azL]at h2))
   .conv=>whnf
    repeat ((first|refine e3 ?_|refine e2 ?_);conv=>whnf)
    refine⟨axD,?_⟩;conv=>whnf
    repeat ((first|refine e3 ?_|refine e2 ?_);conv=>whnf)
    refine⟨axD,?_⟩;refine bj ?_;refine⟨s.length-(i+1),axs,i+1,o++[92]++[s[i]],axs,rfl,axv,aaC axv,?_⟩;refine azK ?_ (azK (congrArg (λk=>cA [(3,.own 1 ((o++[92]).map gj++[s[i]].map gj)),(8,.d (bl s)),(9,.d (int s.length)),(10,.d (int k))] []) (nf (show i<4611686018427387904 by omega))) (app [92] [s[i]]));rw[az5];rfl
   .conv=>whnf
    repeat ((first|refine e3 ?_|refine e2 ?_);conv=>whnf)
    refine⟨axD,?_⟩;refine bj ?_;refine⟨s.length-(i+1),axs,i+1,o++[s[i]],axs,rfl,axv,?_,?_⟩
    .rw[<-aw,a6];simp only[lY,h1,h2,Bool.or_self,az7,aAJ,List.singleton_append]
    .refine azK ?_ (congrArg (zv s (o++[s[i]]) s.length) (nf (show i<4611686018427387904 by omega)));unfold zv;rw[az5];rfl
 .conv=>whnf
  repeat ((first|refine e3 ?_|refine e2 ?_);conv=>whnf)
  refine⟨axD,?_⟩;conv=>whnf
  repeat ((first|refine e3 ?_|refine e2 ?_);conv=>whnf)
  have cG:¬i<s.length:=axu;have kP:o=34::lY s:=by grind[lY]
  have hu:oc (o.map gj++[.int .u8 34])=some (34::(lY s++[34])):=by
   have:=Lp (o++[34]);rw[az5,kP]at this;rw[kP];exact this
  simp only[hu];refine bj ?_;exact⟨axr,axr⟩
end
def pL(k n:Int)(t:ax):D:=.agg [int k,int n,.str t]
theorem ams(s:ax)(hs:s.length<=1073741824):aM 108 [.d (pL 2 0 s)] [] (.d (.bool (xd s))) []:=by
 refine KK.fh ?_;refine bj ?_;refine⟨_,_,aaA s hs,?_⟩;refine bj ?_;exact⟨axr,axr⟩
def FO(s:ax):ax:=cond (xd s) (34::(lY s++[34])) []
theorem amt(s:ax)(hs:s.length<=1073741824):aM 65 [.d (pL 2 0 s)] [] (.d (.str (FO s))) []:=by
 refine KW.fh ?_;refine bj ?_;refine⟨_,_,ams s hs,?_⟩;refine bj ?_;refine Sj (λh=> ?_) (λh=> ?_)
 .refine bj ?_;exact⟨by unfold FO;rw[h];rfl,axr⟩
 .refine bj ?_;refine⟨_,_,aaB s hs,?_⟩;refine bj ?_;exact⟨by unfold FO;rw[h];rfl,axr⟩
theorem FP:∀(e:Bool) (l:ax),(lu e l).length<=l.length
 |e,[]=>by cases e<;>exact azI _
 |e,c::l=>by
  have h1:=FP true l;have h2:=FP false l;simp only[lu];grind
def pM(m:ax):Option ax:=cond (decide (FO (lu false m)=34::(m++[34]))) (some (lu false m)) none
section
attribute [local irreducible] instDecidableEqList
theorem amu(m:ax)(hs:m.length<=1073741824):aM 154 [.d (.str (34::(m++[34])))] [] (match pM m with
  |some t=>.tuple [.d (pL 2 0 t),.d (int 0)]
  |none=>.tuple [.d (pL 0 0 []),.d (int 20)]) []:=by
 have hu:=FP false m;refine YY.fh ?_;refine bj ?_;refine⟨_,_,Lr,?_⟩;refine bj ?_;conv=>whnf
 repeat ((first|refine e3 ?_|refine e2 ?_);conv=>whnf)
 have aH:((34::(m++[34]):ax).length:Int)=((m.length+2:Nat):Int):=axv;have hw:IntKind.i64.wrap (((34::(m++[34]):ax).length:Int)-1)=((m.length+1:Nat):Int):=ayG;have aE:(34::(m++[34]):ax).getD (Int.toNat ((m.length+1:Nat):Int)) 0=34:=axt;have aB:decide ((1:Int)<((34::(m++[34]):ax).length:Int))=true:=azO axs;refine Ka axt ?_;conv=>whnf
 repeat ((first|refine e3 ?_|refine e2 ?_);conv=>whnf)
 refine⟨axv,?_⟩;conv=>whnf
 repeat ((first|refine e3 ?_|refine e2 ?_);conv=>whnf)
 simp only[hw,aE];refine⟨axv,?_⟩;conv=>whnf
 repeat ((first|refine e3 ?_|refine e2 ?_);conv=>whnf)
 have Ct:((34::(m++[34]):ax).drop (Int.toNat 1)).take (Int.toNat ((m.length+1:Nat):Int)-Int.toNat 1)=m:=axt;simp only[hw];refine⟨axv,?_⟩;conv=>whnf
 repeat ((first|refine e3 ?_|refine e2 ?_);conv=>whnf)
 simp only[Ct];refine cj (amr m axs) ?_;refine cj (Lq (lu false m)) ?_;refine cj (amt (lu false m) axs) ?_;refine Sj (λh=> ?_) (λh=> ?_)
 .have aC:pM m=none:=by grind[pM]
  refine bj ?_;exact⟨azK (b:=ag.tuple [.d (pL 0 0 []),.d (int 20)]) axr (by rw[aC]),axr⟩
 .have aC:pM m=some (lu false m):=by grind[pM]
  refine bj ?_;exact⟨azK (b:=ag.tuple [.d (pL 2 0 (lu false m)),.d (int 0)]) axr (by rw[aC]),axr⟩
end
theorem amv(l:ax)(aH:l.length<=1073741824):aM 152 [.d (.str l)] [] (match Lib.atoiAll l with
  |.ok v=>.tuple [.d (int v),.d .ig]
  |.range=>.tuple [.d (int (Lib.atoiSat l)),.d .hL]
  |Lib.NumEnd.syntax=>.tuple [.d (int 0),.d .hL]) []:=by
 cases h:Lib.atoiAll l with
 |ok v=>grind[RX,tD.ca,exts,tD.a]
 |range=>exact RZ exts.ca exts.Fb axs h
 |_=>exact R0 exts.ca exts.Fb axs h
theorem aaD(l:ax)(aH:l.length<=1073741824):(∃v,Lib.atoiAll l=.ok v/\aM 152 [.d (.str l)] [] (.tuple [.d (int v),.d .ig]) [])\/
  ∃n,(∀v,Lib.atoiAll l≠.ok v)/\aM 152 [.d (.str l)] [] (.tuple [.d (int n),.d .hL]) []:=by
 grind[amv]
def fx(a b:ax):Bool:=decide ((b.length:Int)<=a.length)&&decide (a.take b.length=b)
section
attribute [local irreducible] Int.decLt Int.decLe Int.instDecidableEq IntKind.wrap instDecidableEqList
theorem amw(a b:ax):aM 73 [.d (.str a),.d (.str b)] [] (.d (.bool (fx a b))) []:=by
 refine KI.fh ?_;conv=>whnf
 repeat ((first|refine e3 ?_|refine e2 ?_);conv=>whnf)
 refine Si (λh=> ?_) (λh=> ?_)
 .conv=>whnf
  repeat ((first|refine e3 ?_|refine e2 ?_);conv=>whnf)
  have cG:b.length<=a.length:=axu;refine⟨axu,?_⟩;have aC:((a.drop (Int.toNat 0)).take (Int.toNat (b.length:Int)-Int.toNat 0))=a.take b.length:=axt;simp only[aC];conv=>whnf
  repeat ((first|refine e3 ?_|refine e2 ?_);conv=>whnf)
  exact⟨by unfold fx;rw[h];rfl,axr⟩
 .conv=>whnf
  repeat ((first|refine e3 ?_|refine e2 ?_);conv=>whnf)
  exact⟨by unfold fx;rw[h];rfl,axr⟩
theorem lv(a b:ax):aM 39 [.d (.str a),.d (.str b)] [] (.d (.bool (fx a b))) []:=by
 refine KA.fh ?_;refine bj ?_;refine⟨_,_,amw a b,?_⟩;refine bj ?_;exact⟨axr,axr⟩
end
structure zw where
 k:Int
 t:ax
 n:Int
 len:Option Nat
 e:Int
def fq(e:Int):zw:=⟨0,[],0,none,e⟩
def signs:List ax:=[[33,61],[60,61],[62,61],[46,46],[40],[41],[44],[59],[58],[124],[43],[45],[42],[47],[37],[61],[60],[62]]
def va(r:ax):List ax->Option ax
 |[]=>none
 |x::l=>cond (fx r x) (some x) (va r l)
def dD:ax->zw
 |[]=>fq 50
 |c::l=>
  cond (Cs c) (cond (decide ((16:Int)<(eO mH (c::l):Nat))) (fq 50) ⟨1,(c::l).take (eO mH (c::l)),0,some (eO mH (c::l)),0⟩)
  (cond (jA c) (cond (decide ((c.toNat:Int)=48)&&decide ((1:Int)<(eO jA (c::l):Nat))) (fq 50) (match Lib.atoiAll ((c::l).take (eO jA (c::l)))with
   |.ok v=>⟨2,[],v,some (eO jA (c::l)),0⟩
   |_=>fq 10))
  (cond (decide ((c.toNat:Int)=34)) (match kX l with
   |none=>fq 50
   |some m=>match pM (l.take (m-1))with
    |none=>fq 50
    |some t=>⟨3,t,0,some (m+1),0⟩)
  (match va (c::l) signs with
   |none=>fq 50
   |some x=>⟨4,x,0,some x.length,0⟩)))
def FQ(k:Nat)(x:zw):Int:=match x.len with
 |some m=>((k+m:Nat):Int)
 |none=>0
def ng(k:Nat)(x:zw):ag:=.tuple [.d (.agg [int x.k,.str x.t,int x.n,int k]),.d (int (FQ k x)),.d (int x.e)]
theorem amx:∀(n:Nat) (l:ax),l.length<=n->∀m,kX l=some m->l.take m=l.take (m-1)++[34]:=by
 intro n;induction n with
 |zero=>
  grind[kX]
 |succ n ih=>
  intro l aH m h;cases l with
  |nil=>simp_all
  |cons c l=>
   unfold kX at h;cases h1:decide ((c.toNat:Int)=92)with
   |true=>
    rw[h1]at h;simp only[azL]at h;cases l with
    |nil=>grind
    |cons d l=>
     simp only[aAt]at h;obtain⟨q,aT,rfl⟩:=h;have:=ih l axv q aT;have HS:=(FM _ l (azI _) q aT).1;obtain⟨q',rfl⟩:∃q',q=q'+1:=⟨q-1,axs⟩;simp_all
   |false=>
    rw[h1]at h;simp only[az7]at h;cases h2:decide ((c.toNat:Int)=34)with
    |true=>
     rw[h2]at h;simp only[azL,azJ]at h;subst h;have:c=34:=by
      have:=of_decide_eq_true h2;apply UInt8.toNat_inj.1;grind
     simp_all
    |false=>
     rw[h2]at h;simp only[az7,aAt]at h;obtain⟨q,aT,rfl⟩:=h;have:=ih l axu q aT;have HS:=(FM _ l (azI _) q aT).1;obtain⟨q',rfl⟩:∃q',q=q'+1:=⟨q-1,axs⟩;simp_all
theorem drop_take(s:ax){k m:Nat}:((s.drop (Int.toNat (k:Int))).take (Int.toNat ((k+m:Nat):Int)-Int.toNat (k:Int)))=(s.drop k).take m:=axv
section
attribute [local irreducible] Int.decLt Int.decLe Int.instDecidableEq IntKind.wrap instDecidableEqList
theorem amy(k m:Nat)(h:k+m<=1073741824):IntKind.i64.wrap (((k+m:Nat):Int)-(k:Int))=(m:Int):=ayG
theorem iC(k m:Nat)(h:k+m<=2147483648):IntKind.i64.wrap ((k:Int)+(m:Int))=((k+m:Nat):Int):=ayG
def amz(s:ax)(k i:Int):af:=pD [(0,.d (.str s)),(1,.d (int k)),(4,.dT 4 0),(19,.d (.agg (signs.map D.str))),(20,.d (int i))] [(4,[.d (int 0),.d (.str []),.d (int 0),.d (int k)])] []
theorem amA(s:ax)(k:Nat)(au:k<s.length)(hs:s.length<=1073741824):aM 91 [.d (.str s),.d (int k)] [] (ng k (dD (s.drop k))) []:=by
 have a6:=aAI au;have hlen:(s.drop k).length=s.length-k:=aBn;have avL:decide ((20:Int)=0)=false:=aAg axs;have jd:decide ((0:Int)=0)=true:=azO rfl;refine Yv.fh ?_;conv=>whnf
 repeat ((first|refine e3 ?_|refine e2 ?_);conv=>whnf)
 refine⟨axu,?_⟩;rw[getD_at au];refine bj ?_;have fin:∀x:zw,dD (s.drop k)=x->ng k x=ng k (dD (s.drop k)):=λx h=>congrArg (ng k) h.symm;refine⟨_,_,amm s[k],?_⟩;refine bj ?_;first|refine eJ (λh1=> ?_) (λh1=> ?_)|((refine eE (λh1=> ?_) (λh1=> ?_))<;>(try simp only[azL]at h1))
 .refine bj ?_;have aw:=Ln s k 150 mH amn axs hs;have hle:=zt mH (s.drop k);refine⟨_,_,aw,?_⟩;refine bj ?_;simp only[amy k (eO mH (s.drop k)) axs];first|refine eJ (λh2=> ?_) (λh2=> ?_)|((refine eE (λh2=> ?_) (λh2=> ?_))<;>(try simp only[azL]at h2))
  .have az:dD (s.drop k)=fq 50:=by
    rw[a6]at h2⊢;simp_all[dD]
   refine bj ?_;exact⟨azK (b:=ng k (fq 50)) axr (fin _ az),axr⟩
  .have az:dD (s.drop k)=⟨1,(s.drop k).take (eO mH (s.drop k)),0,some (eO mH (s.drop k)),0⟩:=by
    rw[a6]at h2⊢;simp only[dD,h1,azL,az7,h2]
   conv=>whnf
   repeat ((first|refine e3 ?_|refine e2 ?_);conv=>whnf)
   refine⟨axD,?_⟩;conv=>whnf
   repeat ((first|refine e3 ?_|refine e2 ?_);conv=>whnf)
   simp only[drop_take];refine bj ?_;exact⟨azK (b:=ng k ⟨1,(s.drop k).take (eO mH (s.drop k)),0,some (eO mH (s.drop k)),0⟩) axr (fin _ az),axr⟩
 refine bj ?_;refine⟨_,_,aas s[k],?_⟩;refine bj ?_;first|refine eJ (λh2=> ?_) (λh2=> ?_)|((refine eE (λh2=> ?_) (λh2=> ?_))<;>(try simp only[azL]at h2))
 .refine bj ?_;have aw:=Ln s k 151 jA aas axs hs;have hle:=zt jA (s.drop k);refine⟨_,_,aw,?_⟩;refine bj ?_;have num:(decide (((s[k]).toNat:Int)=48)&&decide ((1:Int)<(eO jA (s.drop k):Nat)))=false->∀x:zw,(match Lib.atoiAll ((s.drop k).take (eO jA (s.drop k)))with
    |.ok v=>⟨2,[],v,some (eO jA (s.drop k)),0⟩
    |_=>fq 10)=x->dD (s.drop k)=x:=by
   intro h x ak;rw[<-ak];rw[a6]at h⊢;simp only[dD,h1,h2,azL,az7,h]
  have bad:(decide (((s[k]).toNat:Int)=48)&&decide ((1:Int)<(eO jA (s.drop k):Nat)))=true->dD (s.drop k)=fq 50:=by
   intro h;rw[a6]at h⊢;simp only[dD,h1,h2,azL,az7,h]
  have pb:((s.drop k).take (eO jA (s.drop k))).length<=1073741824:=axv;refine Si (λav=> ?_) (λav=> ?_)
  .conv=>whnf
   repeat ((first|refine e3 ?_|refine e2 ?_);conv=>whnf)
   simp only[nf (show k<4611686018427387904 by omega)];first|refine eJ (λaZ=> ?_) (λaZ=> ?_)|((refine eE (λaZ=> ?_) (λaZ=> ?_))<;>(try simp only[azL]at aZ))
   .have Lo:decide ((1:Int)<(eO jA (s.drop k):Nat))=true:=azO axu;refine bj ?_;exact⟨azK (b:=ng k (fq 50)) axr (fin _ (bad axu)),axr⟩
   .have Lo:decide ((1:Int)<(eO jA (s.drop k):Nat))=false:=aAg axu;have Cu:=num axu;conv=>whnf
    repeat ((first|refine e3 ?_|refine e2 ?_);conv=>whnf)
    refine⟨axD,?_⟩;conv=>whnf
    repeat ((first|refine e3 ?_|refine e2 ?_);conv=>whnf)
    simp only[drop_take];refine aAV (aaD _ pb) (λh=> ?_) (λh=> ?_)
    .refine az1 h (λv hv=> ?_);refine cj (hv.2) ?_;exact⟨azK (b:=ng k ⟨2,[],v,some (eO jA (s.drop k)),0⟩) axr (fin _ (Cu _ axv)),axr⟩
    .refine az1 h (λv hv=> ?_);refine cj (hv.2) ?_;exact⟨azK (b:=ng k (fq 10)) axr (fin _ (Cu _ axu)),axr⟩
  .have Cu:=num axu;conv=>whnf
   repeat ((first|refine e3 ?_|refine e2 ?_);conv=>whnf)
   refine⟨axD,?_⟩;conv=>whnf
   repeat ((first|refine e3 ?_|refine e2 ?_);conv=>whnf)
   simp only[drop_take];refine aAV (aaD _ pb) (λh=> ?_) (λh=> ?_)
   .refine az1 h (λv hv=> ?_);refine cj (hv.2) ?_;exact⟨azK (b:=ng k ⟨2,[],v,some (eO jA (s.drop k)),0⟩) axr (fin _ (Cu _ axv)),axr⟩
   .refine az1 h (λv hv=> ?_);refine cj (hv.2) ?_;exact⟨azK (b:=ng k (fq 10)) axr (fin _ (Cu _ axu)),axr⟩
 refine bj ?_;first|refine eJ (λav=> ?_) (λav=> ?_)|((refine eE (λav=> ?_) (λav=> ?_))<;>(try simp only[azL]at av))
 .refine bj ?_;refine⟨_,_,amq s k au hs,?_⟩;refine bj ?_;have base:dD (s.drop k)=(match kX (s.drop (k+1))with
   |none=>fq 50
   |some m=>match pM ((s.drop (k+1)).take (m-1))with
    |none=>fq 50
    |some t=>⟨3,t,0,some (m+1),0⟩):=by
   rw[a6];simp_all[dD]
  have Cv:kX (s.drop (k+1))=none\/∃m,kX (s.drop (k+1))=some m:=axv;refine aAV Cv (λh=> ?_) (λh=>az1 h (λm hm=> ?_))
  .have az:dD (s.drop k)=fq 50:=by simp_all
   refine kV (azO (by rw[h];show(-1:Int)<0;omega)) ?_;refine bj ?_;exact⟨azK (b:=ng k (fq 50)) axr (fin _ az),axr⟩
  .have aq:=FM _ _ (azI _) m hm;rw[aBn]at aq;have gq:u' (k+1) (kX (s.drop (k+1)))=((k+(m+1):Nat):Int):=by grind[u']
   have Ct:(s.drop k).take (m+1)=34::((s.drop (k+1)).take (m-1)++[34]):=by
    rw[a6,aBE,amx _ _ (azI _) m hm];congr 1;have:=of_decide_eq_true av;apply UInt8.toNat_inj.1;grind
   simp only[gq];refine Ka (aAg axs) ?_;conv=>whnf
   repeat ((first|refine e3 ?_|refine e2 ?_);conv=>whnf)
   refine⟨axD,?_⟩;conv=>whnf
   repeat ((first|refine e3 ?_|refine e2 ?_);conv=>whnf)
   simp only[drop_take,Ct];have hp:=amu ((s.drop (k+1)).take (m-1)) axv;have amB:(pM ((s.drop (k+1)).take (m-1))=none/\aM 154 [.d (.str (34::((s.drop (k+1)).take (m-1)++[34])))] [] (.tuple [.d (pL 0 0 []),.d (int 20)]) [])\/∃t,pM ((s.drop (k+1)).take (m-1))=some t/\aM 154 [.d (.str (34::((s.drop (k+1)).take (m-1)++[34])))] [] (.tuple [.d (pL 2 0 t),.d (int 0)]) []:=by
    cases aC:pM ((s.drop (k+1)).take (m-1))with
    |none=>rw[aC]at hp;exact .inl ⟨rfl,hp⟩
    |some t=>rw[aC]at hp;exact .inr ⟨t,rfl,hp⟩
   refine aAV amB (λh=> ?_) (λh=>az1 h (λt aC=> ?_))
   .have az:dD (s.drop k)=fq 50:=by simp_all
    refine cj (h.2) ?_;exact⟨azK (b:=ng k (fq 50)) axr (fin _ az),axr⟩
   .have az:dD (s.drop k)=⟨3,t,0,some (m+1),0⟩:=by simp_all
    refine cj (aC.2) ?_;exact⟨azK (b:=ng k ⟨3,t,0,some (m+1),0⟩) axr (fin _ az),axr⟩
 have base:dD (s.drop k)=(match va (s.drop k) signs with
   |none=>fq 50
   |some x=>⟨4,x,0,some x.length,0⟩):=by
  rw[a6];simp_all[dD]
 have j3:((s.drop (Int.toNat (k:Int))).take (Int.toNat (s.length:Int)-Int.toNat (k:Int)))=s.drop k:=by
  grind[Int.toNat_natCast]
 have lo:(0:Int)<=(k:Int):=axs;refine bj ?_;refine⟨λn st=>∃i:Nat,i<=18/\n=18-i/\va (s.drop k) (signs.drop i)=va (s.drop k) signs/\st=amz s k i,18,⟨0,axs,rfl,rfl,axr⟩,?_⟩;rintro _ _ ⟨i,hi,rfl,aw,rfl⟩;obtain rfl|rfl|rfl|rfl|rfl|rfl|rfl|rfl|rfl|rfl|rfl|rfl|rfl|rfl|rfl|rfl|rfl|rfl|rfl:i=0\/i=1\/i=2\/i=3\/i=4\/i=5\/i=6\/i=7\/i=8\/i=9\/i=10\/i=11\/i=12\/i=13\/i=14\/i=15\/i=16\/i=17\/i=18:=axs
 .refine bj ?_;refine kV (azO axs) ?_;conv=>whnf
  refine⟨axr,?_⟩;conv=>whnf
  refine⟨axv,?_⟩;conv=>whnf
  simp only[j3];refine bj ?_;refine cj (lv (s.drop k) [33,61]) ?_;first|refine eJ (λh=> ?_) (λh=> ?_)|((refine eE (λh=> ?_) (λh=> ?_))<;>(try simp only[azL]at h))
  .have az:dD (s.drop k)=⟨4,[33,61],0,some 2,0⟩:=by
    rw[base,<-aw];show(match cond (fx (s.drop k) [33,61]) (some [33,61]) _ with|none=>fq 50|some x=>⟨4,x,0,some x.length,0⟩)=_;rw[h];rfl
   refine bj ?_;exact⟨azK (azK (b:=ag.tuple [.d (.agg [int 4,.str [33,61],int 0,int k]),.d (int (IntKind.i64.wrap ((k:Int)+((2:Nat):Int)))),.d (int 0)]) axr (congrArg (λe=>ag.tuple [.d (.agg [int 4,.str [33,61],int 0,int k]),.d (int e),.d (int 0)]) (iC k 2 axs))) (fin _ az),axr⟩
  .refine bj ?_;refine⟨17-0,axs,0+1,axs,axs,?_,axr⟩;rw[<-aw];show _=cond (fx (s.drop k) [33,61]) (some [33,61]) _;rw[h];rfl
 .refine bj ?_;refine kV (azO axs) ?_;conv=>whnf
  refine⟨axr,?_⟩;conv=>whnf
  refine⟨axv,?_⟩;conv=>whnf
  simp only[j3];refine bj ?_;refine cj (lv (s.drop k) [60,61]) ?_;first|refine eJ (λh=> ?_) (λh=> ?_)|((refine eE (λh=> ?_) (λh=> ?_))<;>(try simp only[azL]at h))
  .have az:dD (s.drop k)=⟨4,[60,61],0,some 2,0⟩:=by
    rw[base,<-aw];show(match cond (fx (s.drop k) [60,61]) (some [60,61]) _ with|none=>fq 50|some x=>⟨4,x,0,some x.length,0⟩)=_;rw[h];rfl
   refine bj ?_;exact⟨azK (azK (b:=ag.tuple [.d (.agg [int 4,.str [60,61],int 0,int k]),.d (int (IntKind.i64.wrap ((k:Int)+((2:Nat):Int)))),.d (int 0)]) axr (congrArg (λe=>ag.tuple [.d (.agg [int 4,.str [60,61],int 0,int k]),.d (int e),.d (int 0)]) (iC k 2 axs))) (fin _ az),axr⟩
  .refine bj ?_;refine⟨17-1,axs,1+1,axs,axs,?_,axr⟩;rw[<-aw];show _=cond (fx (s.drop k) [60,61]) (some [60,61]) _;rw[h];rfl
 .refine bj ?_;refine kV (azO axs) ?_;conv=>whnf
  refine⟨axr,?_⟩;conv=>whnf
  refine⟨axv,?_⟩;conv=>whnf
  simp only[j3];refine bj ?_;refine cj (lv (s.drop k) [62,61]) ?_;first|refine eJ (λh=> ?_) (λh=> ?_)|((refine eE (λh=> ?_) (λh=> ?_))<;>(try simp only[azL]at h))
  .have az:dD (s.drop k)=⟨4,[62,61],0,some 2,0⟩:=by
    rw[base,<-aw];show(match cond (fx (s.drop k) [62,61]) (some [62,61]) _ with|none=>fq 50|some x=>⟨4,x,0,some x.length,0⟩)=_;rw[h];rfl
   refine bj ?_;exact⟨azK (azK (b:=ag.tuple [.d (.agg [int 4,.str [62,61],int 0,int k]),.d (int (IntKind.i64.wrap ((k:Int)+((2:Nat):Int)))),.d (int 0)]) axr (congrArg (λe=>ag.tuple [.d (.agg [int 4,.str [62,61],int 0,int k]),.d (int e),.d (int 0)]) (iC k 2 axs))) (fin _ az),axr⟩
  .refine bj ?_;refine⟨17-2,axs,2+1,axs,axs,?_,axr⟩;rw[<-aw];show _=cond (fx (s.drop k) [62,61]) (some [62,61]) _;rw[h];rfl
 .refine bj ?_;refine kV (azO axs) ?_;conv=>whnf
  refine⟨axr,?_⟩;conv=>whnf
  refine⟨axv,?_⟩;conv=>whnf
  simp only[j3];refine bj ?_;refine cj (lv (s.drop k) [46,46]) ?_;first|refine eJ (λh=> ?_) (λh=> ?_)|((refine eE (λh=> ?_) (λh=> ?_))<;>(try simp only[azL]at h))
  .have az:dD (s.drop k)=⟨4,[46,46],0,some 2,0⟩:=by
    rw[base,<-aw];show(match cond (fx (s.drop k) [46,46]) (some [46,46]) _ with|none=>fq 50|some x=>⟨4,x,0,some x.length,0⟩)=_;rw[h];rfl
   refine bj ?_;exact⟨azK (azK (b:=ag.tuple [.d (.agg [int 4,.str [46,46],int 0,int k]),.d (int (IntKind.i64.wrap ((k:Int)+((2:Nat):Int)))),.d (int 0)]) axr (congrArg (λe=>ag.tuple [.d (.agg [int 4,.str [46,46],int 0,int k]),.d (int e),.d (int 0)]) (iC k 2 axs))) (fin _ az),axr⟩
  .refine bj ?_;refine⟨17-3,axs,3+1,axs,axs,?_,axr⟩;rw[<-aw];show _=cond (fx (s.drop k) [46,46]) (some [46,46]) _;rw[h];rfl
 .refine bj ?_;refine kV (azO axs) ?_;conv=>whnf
  refine⟨axr,?_⟩;conv=>whnf
  refine⟨axv,?_⟩;conv=>whnf
  simp only[j3];refine bj ?_;refine cj (lv (s.drop k) [40]) ?_;first|refine eJ (λh=> ?_) (λh=> ?_)|((refine eE (λh=> ?_) (λh=> ?_))<;>(try simp only[azL]at h))
  .have az:dD (s.drop k)=⟨4,[40],0,some 1,0⟩:=by
    rw[base,<-aw];show(match cond (fx (s.drop k) [40]) (some [40]) _ with|none=>fq 50|some x=>⟨4,x,0,some x.length,0⟩)=_;rw[h];rfl
   refine bj ?_;exact⟨azK (azK (b:=ag.tuple [.d (.agg [int 4,.str [40],int 0,int k]),.d (int (IntKind.i64.wrap ((k:Int)+((1:Nat):Int)))),.d (int 0)]) axr (congrArg (λe=>ag.tuple [.d (.agg [int 4,.str [40],int 0,int k]),.d (int e),.d (int 0)]) (iC k 1 axs))) (fin _ az),axr⟩
  .refine bj ?_;refine⟨17-4,axs,4+1,axs,axs,?_,axr⟩;rw[<-aw];show _=cond (fx (s.drop k) [40]) (some [40]) _;rw[h];rfl
 .refine bj ?_;refine kV (azO axs) ?_;conv=>whnf
  refine⟨axr,?_⟩;conv=>whnf
  refine⟨axv,?_⟩;conv=>whnf
  simp only[j3];refine bj ?_;refine cj (lv (s.drop k) [41]) ?_;first|refine eJ (λh=> ?_) (λh=> ?_)|((refine eE (λh=> ?_) (λh=> ?_))<;>(try simp only[azL]at h))
  .have az:dD (s.drop k)=⟨4,[41],0,some 1,0⟩:=by
    rw[base,<-aw];show(match cond (fx (s.drop k) [41]) (some [41]) _ with|none=>fq 50|some x=>⟨4,x,0,some x.length,0⟩)=_;rw[h];rfl
   refine bj ?_;exact⟨azK (azK (b:=ag.tuple [.d (.agg [int 4,.str [41],int 0,int k]),.d (int (IntKind.i64.wrap ((k:Int)+((1:Nat):Int)))),.d (int 0)]) axr (congrArg (λe=>ag.tuple [.d (.agg [int 4,.str [41],int 0,int k]),.d (int e),.d (int 0)]) (iC k 1 axs))) (fin _ az),axr⟩
  .refine bj ?_;refine⟨17-5,axs,5+1,axs,axs,?_,axr⟩;rw[<-aw];show _=cond (fx (s.drop k) [41]) (some [41]) _;rw[h];rfl
 .refine bj ?_;refine kV (azO axs) ?_;conv=>whnf
  refine⟨axr,?_⟩;conv=>whnf
  refine⟨axv,?_⟩;conv=>whnf
  simp only[j3];refine bj ?_;refine cj (lv (s.drop k) [44]) ?_;first|refine eJ (λh=> ?_) (λh=> ?_)|((refine eE (λh=> ?_) (λh=> ?_))<;>(try simp only[azL]at h))
  .have az:dD (s.drop k)=⟨4,[44],0,some 1,0⟩:=by
    rw[base,<-aw];show(match cond (fx (s.drop k) [44]) (some [44]) _ with|none=>fq 50|some x=>⟨4,x,0,some x.length,0⟩)=_;rw[h];rfl
   refine bj ?_;exact⟨azK (azK (b:=ag.tuple [.d (.agg [int 4,.str [44],int 0,int k]),.d (int (IntKind.i64.wrap ((k:Int)+((1:Nat):Int)))),.d (int 0)]) axr (congrArg (λe=>ag.tuple [.d (.agg [int 4,.str [44],int 0,int k]),.d (int e),.d (int 0)]) (iC k 1 axs))) (fin _ az),axr⟩
  .refine bj ?_;refine⟨17-6,axs,6+1,axs,axs,?_,axr⟩;rw[<-aw];show _=cond (fx (s.drop k) [44]) (some [44]) _;rw[h];rfl
 .refine bj ?_;refine kV (azO axs) ?_;conv=>whnf
  refine⟨axr,?_⟩;conv=>whnf
  refine⟨axv,?_⟩;conv=>whnf
  simp only[j3];refine bj ?_;refine cj (lv (s.drop k) [59]) ?_;first|refine eJ (λh=> ?_) (λh=> ?_)|((refine eE (λh=> ?_) (λh=> ?_))<;>(try simp only[azL]at h))
  .have az:dD (s.drop k)=⟨4,[59],0,some 1,0⟩:=by
    rw[base,<-aw];show(match cond (fx (s.drop k) [59]) (some [59]) _ with|none=>fq 50|some x=>⟨4,x,0,some x.length,0⟩)=_;rw[h];rfl
   refine bj ?_;exact⟨azK (azK (b:=ag.tuple [.d (.agg [int 4,.str [59],int 0,int k]),.d (int (IntKind.i64.wrap ((k:Int)+((1:Nat):Int)))),.d (int 0)]) axr (congrArg (λe=>ag.tuple [.d (.agg [int 4,.str [59],int 0,int k]),.d (int e),.d (int 0)]) (iC k 1 axs))) (fin _ az),axr⟩
  .refine bj ?_;refine⟨17-7,axs,7+1,axs,axs,?_,axr⟩;rw[<-aw];show _=cond (fx (s.drop k) [59]) (some [59]) _;rw[h];rfl
 .refine bj ?_;refine kV (azO axs) ?_;conv=>whnf
  refine⟨axr,?_⟩;conv=>whnf
  refine⟨axv,?_⟩;conv=>whnf
  simp only[j3];refine bj ?_;refine cj (lv (s.drop k) [58]) ?_;first|refine eJ (λh=> ?_) (λh=> ?_)|((refine eE (λh=> ?_) (λh=> ?_))<;>(try simp only[azL]at h))
  .have az:dD (s.drop k)=⟨4,[58],0,some 1,0⟩:=by
    rw[base,<-aw];show(match cond (fx (s.drop k) [58]) (some [58]) _ with|none=>fq 50|some x=>⟨4,x,0,some x.length,0⟩)=_;rw[h];rfl
   refine bj ?_;exact⟨azK (azK (b:=ag.tuple [.d (.agg [int 4,.str [58],int 0,int k]),.d (int (IntKind.i64.wrap ((k:Int)+((1:Nat):Int)))),.d (int 0)]) axr (congrArg (λe=>ag.tuple [.d (.agg [int 4,.str [58],int 0,int k]),.d (int e),.d (int 0)]) (iC k 1 axs))) (fin _ az),axr⟩
  .refine bj ?_;refine⟨17-8,axs,8+1,axs,axs,?_,axr⟩;rw[<-aw];show _=cond (fx (s.drop k) [58]) (some [58]) _;rw[h];rfl
 .refine bj ?_;refine kV (azO axs) ?_;conv=>whnf
  refine⟨axr,?_⟩;conv=>whnf
  refine⟨axv,?_⟩;conv=>whnf
  simp only[j3];refine bj ?_;refine cj (lv (s.drop k) [124]) ?_;first|refine eJ (λh=> ?_) (λh=> ?_)|((refine eE (λh=> ?_) (λh=> ?_))<;>(try simp only[azL]at h))
  .have az:dD (s.drop k)=⟨4,[124],0,some 1,0⟩:=by
    rw[base,<-aw];show(match cond (fx (s.drop k) [124]) (some [124]) _ with|none=>fq 50|some x=>⟨4,x,0,some x.length,0⟩)=_;simp_all
   refine bj ?_;exact⟨azK (azK (b:=ag.tuple [.d (.agg [int 4,.str [124],int 0,int k]),.d (int (IntKind.i64.wrap ((k:Int)+((1:Nat):Int)))),.d (int 0)]) axr (congrArg (λe=>ag.tuple [.d (.agg [int 4,.str [124],int 0,int k]),.d (int e),.d (int 0)]) (iC k 1 axs))) (fin _ az),axr⟩
  .refine bj ?_;refine⟨17-9,axs,9+1,axs,axs,?_,axr⟩;rw[<-aw];show _=cond (fx (s.drop k) [124]) (some [124]) _;rw[h];rfl
 .refine bj ?_;refine kV (azO axs) ?_;conv=>whnf
  refine⟨axr,?_⟩;conv=>whnf
  refine⟨axv,?_⟩;conv=>whnf
  simp only[j3];refine bj ?_;refine cj (lv (s.drop k) [43]) ?_;first|refine eJ (λh=> ?_) (λh=> ?_)|((refine eE (λh=> ?_) (λh=> ?_))<;>(try simp only[azL]at h))
  .have az:dD (s.drop k)=⟨4,[43],0,some 1,0⟩:=by
    rw[base,<-aw];show(match cond (fx (s.drop k) [43]) (some [43]) _ with|none=>fq 50|some x=>⟨4,x,0,some x.length,0⟩)=_;simp_all
   refine bj ?_;exact⟨azK (azK (b:=ag.tuple [.d (.agg [int 4,.str [43],int 0,int k]),.d (int (IntKind.i64.wrap ((k:Int)+((1:Nat):Int)))),.d (int 0)]) axr (congrArg (λe=>ag.tuple [.d (.agg [int 4,.str [43],int 0,int k]),.d (int e),.d (int 0)]) (iC k 1 axs))) (fin _ az),axr⟩
  .refine bj ?_;refine⟨17-10,axs,10+1,axs,axs,?_,axr⟩;rw[<-aw];show _=cond (fx (s.drop k) [43]) (some [43]) _;rw[h];rfl
 .refine bj ?_;refine kV (azO axs) ?_;conv=>whnf
  refine⟨axr,?_⟩;conv=>whnf
  refine⟨axv,?_⟩;conv=>whnf
  simp only[j3];refine bj ?_;refine cj (lv (s.drop k) [45]) ?_;first|refine eJ (λh=> ?_) (λh=> ?_)|((refine eE (λh=> ?_) (λh=> ?_))<;>(try simp only[azL]at h))
  .have az:dD (s.drop k)=⟨4,[45],0,some 1,0⟩:=by
    rw[base,<-aw];show(match cond (fx (s.drop k) [45]) (some [45]) _ with|none=>fq 50|some x=>⟨4,x,0,some x.length,0⟩)=_;simp_all
   refine bj ?_;exact⟨azK (azK (b:=ag.tuple [.d (.agg [int 4,.str [45],int 0,int k]),.d (int (IntKind.i64.wrap ((k:Int)+((1:Nat):Int)))),.d (int 0)]) axr (congrArg (λe=>ag.tuple [.d (.agg [int 4,.str [45],int 0,int k]),.d (int e),.d (int 0)]) (iC k 1 axs))) (fin _ az),axr⟩
  .refine bj ?_;refine⟨17-11,axs,11+1,axs,axs,?_,axr⟩;rw[<-aw];show _=cond (fx (s.drop k) [45]) (some [45]) _;rw[h];rfl
 .refine bj ?_;refine kV (azO axs) ?_;conv=>whnf
  refine⟨axr,?_⟩;conv=>whnf
  refine⟨axv,?_⟩;conv=>whnf
  simp only[j3];refine bj ?_;refine cj (lv (s.drop k) [42]) ?_;first|refine eJ (λh=> ?_) (λh=> ?_)|((refine eE (λh=> ?_) (λh=> ?_))<;>(try simp only[azL]at h))
  .have az:dD (s.drop k)=⟨4,[42],0,some 1,0⟩:=by
    rw[base,<-aw];show(match cond (fx (s.drop k) [42]) (some [42]) _ with|none=>fq 50|some x=>⟨4,x,0,some x.length,0⟩)=_;simp_all
   refine bj ?_;exact⟨azK (azK (b:=ag.tuple [.d (.agg [int 4,.str [42],int 0,int k]),.d (int (IntKind.i64.wrap ((k:Int)+((1:Nat):Int)))),.d (int 0)]) axr (congrArg (λe=>ag.tuple [.d (.agg [int 4,.str [42],int 0,int k]),.d (int e),.d (int 0)]) (iC k 1 axs))) (fin _ az),axr⟩
  .refine bj ?_;refine⟨17-12,axs,12+1,axs,axs,?_,axr⟩;rw[<-aw];show _=cond (fx (s.drop k) [42]) (some [42]) _;rw[h];rfl
 .refine bj ?_;refine kV (azO axs) ?_;conv=>whnf
  refine⟨axr,?_⟩;conv=>whnf
  refine⟨axv,?_⟩;conv=>whnf
  simp only[j3];refine bj ?_;refine cj (lv (s.drop k) [47]) ?_;first|refine eJ (λh=> ?_) (λh=> ?_)|((refine eE (λh=> ?_) (λh=> ?_))<;>(try simp only[azL]at h))
  .have az:dD (s.drop k)=⟨4,[47],0,some 1,0⟩:=by
    rw[base,<-aw];show(match cond (fx (s.drop k) [47]) (some [47]) _ with|none=>fq 50|some x=>⟨4,x,0,some x.length,0⟩)=_;simp_all
   refine bj ?_;exact⟨azK (azK (b:=ag.tuple [.d (.agg [int 4,.str [47],int 0,int k]),.d (int (IntKind.i64.wrap ((k:Int)+((1:Nat):Int)))),.d (int 0)]) axr (congrArg (λe=>ag.tuple [.d (.agg [int 4,.str [47],int 0,int k]),.d (int e),.d (int 0)]) (iC k 1 axs))) (fin _ az),axr⟩
  .refine bj ?_;refine⟨17-13,axs,13+1,axs,axs,?_,axr⟩;rw[<-aw];show _=cond (fx (s.drop k) [47]) (some [47]) _;rw[h];rfl
 .refine bj ?_;refine kV (azO axs) ?_;conv=>whnf
  refine⟨axr,?_⟩;conv=>whnf
  refine⟨axv,?_⟩;conv=>whnf
  simp only[j3];refine bj ?_;refine cj (lv (s.drop k) [37]) ?_;first|refine eJ (λh=> ?_) (λh=> ?_)|((refine eE (λh=> ?_) (λh=> ?_))<;>(try simp only[azL]at h))
  .have az:dD (s.drop k)=⟨4,[37],0,some 1,0⟩:=by
    rw[base,<-aw];show(match cond (fx (s.drop k) [37]) (some [37]) _ with|none=>fq 50|some x=>⟨4,x,0,some x.length,0⟩)=_;simp_all
   refine bj ?_;exact⟨azK (azK (b:=ag.tuple [.d (.agg [int 4,.str [37],int 0,int k]),.d (int (IntKind.i64.wrap ((k:Int)+((1:Nat):Int)))),.d (int 0)]) axr (congrArg (λe=>ag.tuple [.d (.agg [int 4,.str [37],int 0,int k]),.d (int e),.d (int 0)]) (iC k 1 axs))) (fin _ az),axr⟩
  .refine bj ?_;refine⟨17-14,axs,14+1,axs,axs,?_,axr⟩;rw[<-aw];show _=cond (fx (s.drop k) [37]) (some [37]) _;rw[h];rfl
 .refine bj ?_;refine kV (azO axs) ?_;conv=>whnf
  refine⟨axr,?_⟩;conv=>whnf
  refine⟨axv,?_⟩;conv=>whnf
  simp only[j3];refine bj ?_;refine cj (lv (s.drop k) [61]) ?_;first|refine eJ (λh=> ?_) (λh=> ?_)|((refine eE (λh=> ?_) (λh=> ?_))<;>(try simp only[azL]at h))
  .have az:dD (s.drop k)=⟨4,[61],0,some 1,0⟩:=by
    rw[base,<-aw];show(match cond (fx (s.drop k) [61]) (some [61]) _ with|none=>fq 50|some x=>⟨4,x,0,some x.length,0⟩)=_;simp_all
   refine bj ?_;exact⟨azK (azK (b:=ag.tuple [.d (.agg [int 4,.str [61],int 0,int k]),.d (int (IntKind.i64.wrap ((k:Int)+((1:Nat):Int)))),.d (int 0)]) axr (congrArg (λe=>ag.tuple [.d (.agg [int 4,.str [61],int 0,int k]),.d (int e),.d (int 0)]) (iC k 1 axs))) (fin _ az),axr⟩
  .refine bj ?_;refine⟨17-15,axs,15+1,axs,axs,?_,axr⟩;rw[<-aw];show _=cond (fx (s.drop k) [61]) (some [61]) _;rw[h];rfl
 .refine bj ?_;refine kV (azO axs) ?_;conv=>whnf
  refine⟨axr,?_⟩;conv=>whnf
  refine⟨axv,?_⟩;conv=>whnf
  simp only[j3];refine bj ?_;refine cj (lv (s.drop k) [60]) ?_;first|refine eJ (λh=> ?_) (λh=> ?_)|((refine eE (λh=> ?_) (λh=> ?_))<;>(try simp only[azL]at h))
  .have az:dD (s.drop k)=⟨4,[60],0,some 1,0⟩:=by
    rw[base,<-aw];show(match cond (fx (s.drop k) [60]) (some [60]) _ with|none=>fq 50|some x=>⟨4,x,0,some x.length,0⟩)=_;simp_all
   refine bj ?_;exact⟨azK (azK (b:=ag.tuple [.d (.agg [int 4,.str [60],int 0,int k]),.d (int (IntKind.i64.wrap ((k:Int)+((1:Nat):Int)))),.d (int 0)]) axr (congrArg (λe=>ag.tuple [.d (.agg [int 4,.str [60],int 0,int k]),.d (int e),.d (int 0)]) (iC k 1 axs))) (fin _ az),axr⟩
  .refine bj ?_;refine⟨17-16,axs,16+1,axs,axs,?_,axr⟩;rw[<-aw];show _=cond (fx (s.drop k) [60]) (some [60]) _;rw[h];rfl
 .refine bj ?_;refine kV (azO axs) ?_;conv=>whnf
  refine⟨axr,?_⟩;conv=>whnf
  refine⟨axv,?_⟩;conv=>whnf
  simp only[j3];refine bj ?_;refine cj (lv (s.drop k) [62]) ?_;first|refine eJ (λh=> ?_) (λh=> ?_)|((refine eE (λh=> ?_) (λh=> ?_))<;>(try simp only[azL]at h))
  .have az:dD (s.drop k)=⟨4,[62],0,some 1,0⟩:=by
    rw[base,<-aw];show(match cond (fx (s.drop k) [62]) (some [62]) _ with|none=>fq 50|some x=>⟨4,x,0,some x.length,0⟩)=_;simp_all
   refine bj ?_;exact⟨azK (azK (b:=ag.tuple [.d (.agg [int 4,.str [62],int 0,int k]),.d (int (IntKind.i64.wrap ((k:Int)+((1:Nat):Int)))),.d (int 0)]) axr (congrArg (λe=>ag.tuple [.d (.agg [int 4,.str [62],int 0,int k]),.d (int e),.d (int 0)]) (iC k 1 axs))) (fin _ az),axr⟩
  .refine bj ?_;refine⟨17-17,axs,17+1,axs,axs,?_,axr⟩;rw[<-aw];show _=cond (fx (s.drop k) [62]) (some [62]) _;rw[h];rfl
 .have az:dD (s.drop k)=fq 50:=by
   rw[base,<-aw];rfl
  refine bj ?_;refine Ka (aAg axs) ?_;refine bj ?_;exact⟨azK (b:=ng k (fq 50)) axr (fin _ az),axr⟩
end
structure Tok where
 k:Int
 t:ax
 n:Int
 p:Nat
def Tok.d(x:Tok):D:=.agg [int x.k,.str x.t,int x.n,int x.p]
def nV(l:List Tok):D:=.list 4 (l.map Tok.d)
def kB:Nat->Nat->ax->List Tok×Nat×Int
 |0,p,_=>([],p,0)
 |n+1,p,r=>match r with
  |[]=>([],p,0)
  |c::l=>match (dD (c::l)).len with
   |none=>([],p,(dD (c::l)).e)
   |some m=>match kB n (p+m+eS false ((c::l).drop m)) (((c::l).drop m).drop (eS false ((c::l).drop m)))with
    |(ts,q,e)=>cond (decide (e=0)) (⟨(dD (c::l)).k,(dD (c::l)).t,(dD (c::l)).n,p⟩::ts,q,0) ([],q,e)
def ja(s:ax):List Tok×Nat×Int:=cond (decide ((16384:Int)<(s.length:Nat))) ([],0,31) (kB (s.length+1) (eS false s) (s.drop (eS false s)))
theorem Lt{r x:ax}:∀{l:List ax},va r l=some x->x∈l/\fx r x=true
 |[],h=>by grind[va]
 |y::l,h=>by
  simp only[va]at h;cases hy:fx r y with
  |true=>simp_all
  |false=>rw[hy]at h;have:=Lt h;simp_all
theorem aaE{c:UInt8}{l:ax}:(∃e,dD (c::l)=fq e/\e≠0)\/∃m,(dD (c::l)).len=some m/\(dD (c::l)).e=0/\1<=m/\m<=(c::l).length:=by
 have hw:=zt mH (c::l);have avM:=zt jA (c::l);simp only[dD];cases h1:Cs c with
 |true=>
  simp only[azL];have avN:1<=eO mH (c::l):=by grind[eO,mH]
  cases decide ((16:Int)<(eO mH (c::l):Nat))with
  |true=>grind
  |false=>simp_all
 |false=>
  simp only[az7];cases h2:jA c with
  |true=>
   simp only[azL];have avO:1<=eO jA (c::l):=by grind[eO]
   cases (decide ((c.toNat:Int)=48)&&decide ((1:Int)<(eO jA (c::l):Nat)))with
   |true=>exact .inl ⟨50,rfl,axs⟩
   |false=>
    simp only[az7];split;all_goals grind
  |false=>
   simp only[az7];cases av:decide ((c.toNat:Int)=34)with
   |true=>
    simp only[azL];split
    .grind
    .rename_i m hm;have:=FM _ _ (azI _) m hm;split;all_goals grind
   |false=>
    simp only[az7];split
    .grind
    .rename_i x ak;obtain⟨hm,hp⟩:=Lt ak;refine .inr ⟨_,rfl,rfl,?_,?_⟩
     .simp only[signs,azY,aBM,aAR]at hm;grind
     .unfold fx at hp;grind
def r6(o:List Tok)(x:List Tok×Nat×Int):List Tok×Nat×Int:=cond (decide (x.2.2=0)) (o++x.1,x.2.1,0) ([],x.2.1,x.2.2)
def xf(x:List Tok×Nat×Int):ag:=.tuple [.d (nV x.1),.d (int x.2.1),.d (int x.2.2)]
theorem amC:∀(n p:Nat) (r:ax),(kB n p r).2.2≠0->(kB n p r).1=[]
 |0,p,r,h=>rfl
 |n+1,p,[],h=>rfl
 |n+1,p,c::l,h=>by
  grind[kB]
theorem amD(s:ax):r6 [] (ja s)=ja s:=by
 have aH:(ja s).2.2≠0->(ja s).1=[]:=by
  grind[ja,amC]
 unfold r6;grind
theorem amE{o:List Tok}{m p:Nat}{c:UInt8}{l:ax}{e:Int}(h:dD (c::l)=fq e)(he:e≠0):r6 o (kB (m+1) p (c::l))=([],p,e):=by
 grind[kB,fq,r6]
theorem amF{o:List Tok}{m p k:Nat}{c:UInt8}{l:ax}(h:(dD (c::l)).len=some k):
  r6 o (kB (m+1) p (c::l))=r6 (o++[⟨(dD (c::l)).k,(dD (c::l)).t,(dD (c::l)).n,p⟩]) (kB m (p+k+eS false ((c::l).drop k)) (((c::l).drop k).drop (eS false ((c::l).drop k)))):=by
 conv=>lhs;unfold kB
 simp only[h,r6];cases a6:decide ((kB m (p+k+eS false ((c::l).drop k)) (((c::l).drop k).drop (eS false ((c::l).drop k)))).2.2=0)with
 |true=>simp
 |false=>
  simp only[az7];rw[a6];rfl
section
attribute [local irreducible] Int.decLt Int.decLe Int.instDecidableEq IntKind.wrap instDecidableEqList
def aaF(s:ax)(o:List Tok)(p:Int):af:=cA [(0,.d (.str s)),(2,.own 4 (o.map Tok.d)),(3,.d (int p))] []
theorem amG(s:ax)(hs:s.length<=1073741824):aM 52 [.d (.str s)] [] (xf (ja s)) []:=by
 refine KV.fh ?_;refine bj ?_;first|refine eJ (λh=> ?_) (λh=> ?_)|((refine eE (λh=> ?_) (λh=> ?_))<;>(try simp only[azL]at h))
 .refine bj ?_;exact⟨azK (b:=xf ([],0,31)) axr (congrArg xf (show([],0,31)=ja s by grind[ja])),axr⟩
 .have eM:ja s=kB (s.length+1) (eS false s) (s.drop (eS false s)):=by grind[ja]
  have HN:=zu false s;have ch:=aaw s 0 axs hs;rw[aCD,aAy]at ch;refine bj ?_;refine cj (ch) ?_;refine⟨λn st=>∃(p m:Nat) (o:List Tok),p<=s.length/\n=s.length-p/\s.length-p<m/\o.length<=p/\r6 o (kB m p (s.drop p))=r6 [] (ja s)/\st=aaF s o p,s.length-eS false s,⟨eS false s,s.length+1,[],HN,rfl,axs,axt,by rw[eM],axr⟩,?_⟩;rintro _ _ ⟨p,m,o,hp,rfl,hm,bb,aw,rfl⟩;have gO:=aw.trans (amD s);refine bj ?_;first|refine eJ (λh1=> ?_) (λh1=> ?_)|((refine eE (λh1=> ?_) (λh1=> ?_))<;>(try simp only[azL]at h1))
  .have cG:p<s.length:=by grind
   have a6:=aAI cG;obtain⟨m,rfl⟩:∃m',m=m'+1:=⟨m-1,axs⟩;have Lu:=amA s p cG hs;refine bj ?_;refine⟨_,_,Lu,?_⟩;refine bj ?_;refine aAV (aaE (c:=s[p]) (l:=s.drop (p+1))) (λak=>az1 ak (λe ak=> ?_)) (λak=>az1 ak (λk ak=> ?_))
   .rw[<-a6]at ak;have hle:=amE (o:=o) (m:=m) (p:=p) (a6▸ak.1:dD (s[p]::s.drop (p+1))=fq e) ak.2;rw[<-a6]at hle;have eM:=gO.symm.trans hle;have he:(dD (s.drop p)).e=e:=by rw[ak.1];rfl
    refine ajZ (aAg axs) ?_;refine bj ?_;exact⟨azK (azK (b:=ag.tuple [.d (nV []),.d (int p),.d (int (dD (s.drop p)).e)]) axr (congrArg (λe=>ag.tuple [.d (nV []),.d (int p),.d (int e)]) he)) (congrArg xf eM.symm),axr⟩
   .rw[<-a6]at ak;have ev:=amF (o:=o) (m:=m) (p:=p) (a6▸ak.1:(dD (s[p]::s.drop (p+1))).len=some k);rw[<-a6,aBT,aBT]at ev;have qo:p+k<=s.length:=axv;have avP:=aaw s (p+k) qo hs;have AW:=zu false (s.drop (p+k));rw[aBn]at AW;have uV:FQ p (dD (s.drop p))=((p+k:Nat):Int):=by unfold FQ;grind
    refine aj0 (azO ak.2.1) ?_;have amH:aM 90 [.d (.str s),.d (int (FQ p (dD (s.drop p))))] [] (.d (int ((p+k+eS false (s.drop (p+k)):Nat):Int))) []:=axv;conv=>whnf
    repeat ((first|refine e3 ?_|refine e2 ?_);conv=>whnf)
    refine⟨axD,?_⟩;refine bj ?_;refine cj (amH) ?_;refine⟨s.length-(p+k+eS false (s.drop (p+k))),axs,p+k+eS false (s.drop (p+k)),m,o++[⟨(dD (s.drop p)).k,(dD (s.drop p)).t,(dD (s.drop p)).n,p⟩],axs,rfl,axs,axv,ev.symm.trans aw,?_⟩;exact azK (b:=cA [(0,.d (.str s)),(2,.own 4 (o.map Tok.d++[Tok.d ⟨(dD (s.drop p)).k,(dD (s.drop p)).t,(dD (s.drop p)).n,p⟩])),(3,.d (int ((p+k+eS false (s.drop (p+k)):Nat):Int)))] []) axr (by unfold aaF;rw[az5];rfl)
  .have cG:¬p<s.length:=by grind
   have eM:ja s=(o,p,0):=by
    rw[<-gO,aAY axs];cases m<;>simp[kB,r6]
   refine bj ?_;exact⟨azK (b:=xf (o,p,0)) axr (congrArg xf eM.symm),axr⟩
end
def dF(n:Int):Prop:= -9223372036854775808<=n/\n<=9223372036854775807
def xg(t:Tok):Prop:=t.t.length<=16384/\dF t.n
theorem dF.zero:dF 0:=by grind[dF]
theorem amI{m t:ax}(h:pM m=some t):t.length<=m.length:=by
 grind[pM,FP]
theorem amJ{c:UInt8}{l:ax}(aH:(c::l).length<=16384):(dD (c::l)).t.length<=16384/\dF (dD (c::l)).n:=by
 simp only[dD];cases h1:Cs c with
 |true=>
  simp only[azL];cases decide ((16:Int)<(eO mH (c::l):Nat))with
  |true=>exact⟨azF _,dF.zero⟩
  |false=>exact⟨axv,dF.zero⟩
 |false=>
  simp only[az7];cases h2:jA c with
  |true=>
   simp only[azL];cases (decide ((c.toNat:Int)=48)&&decide ((1:Int)<(eO jA (c::l):Nat)))with
   |true=>exact⟨azF _,dF.zero⟩
   |false=>
    simp only[az7];split
    .rename_i h;exact⟨azF _,Lib.atoiAll_bounds h⟩
    .exact⟨azF _,dF.zero⟩
  |false=>
   simp only[az7];cases av:decide ((c.toNat:Int)=34)with
   |true=>
    simp only[azL];split
    .exact⟨azF _,dF.zero⟩
    .split
     .exact⟨azF _,dF.zero⟩
     .rename_i h;have:=amI h;grind[dF.zero]
   |false=>
    simp only[az7];split
    .exact⟨azF _,dF.zero⟩
    .rename_i x ak;obtain⟨hm,_⟩:=Lt ak;refine⟨?_,dF.zero⟩;simp only[signs,azY,aBM,aAR]at hm;rcases hm with rfl|rfl|rfl|rfl|rfl|rfl|rfl|rfl|rfl|rfl|rfl|rfl|rfl|rfl|rfl|rfl|rfl|rfl<;>simp
theorem aaG:∀(n p:Nat) (r:ax),r.length<=16384->(∀t∈(kB n p r).1,xg t)/\(kB n p r).1.length<=r.length
 |0,p,r,_=>⟨by simp[kB],azF _⟩
 |n+1,p,[],_=>⟨by simp[kB],azF _⟩
 |n+1,p,c::l,aH=>by
  have aE:=amJ aH;have au:=aaE (c:=c) (l:=l);unfold kB;simp only[];cases hm:(dD (c::l)).len with
  |none=>exact⟨axt,azF _⟩
  |some m=>
   have FR:1<=m/\m<=(c::l).length:=by
    rcases au with⟨e,he,_⟩|⟨m',h1,_,h2,av⟩
    .rw[he]at hm;cases hm
    simp_all
   have hlen:(((c::l).drop m).drop (eS false ((c::l).drop m))).length+1<=(c::l).length:=axv;have ih:=aaG n (p+m+eS false ((c::l).drop m)) (((c::l).drop m).drop (eS false ((c::l).drop m))) axs;simp only[];generalize kB n (p+m+eS false ((c::l).drop m)) (((c::l).drop m).drop (eS false ((c::l).drop m)))=y at ih⊢;obtain⟨ts,q,e⟩:=y;simp only[];cases decide (e=0)with
   |true=>
    refine⟨λt aC=> ?_,aAs (Nat.succ_le_succ ih.2) hlen⟩;simp only[azL,azY]at aC;rcases aC with rfl|aC
    .exact aE
    simp_all
   |false=>simp
theorem Lv(s:ax):(∀t∈(ja s).1,xg t)/\(ja s).1.length<=16384:=by
 unfold ja;cases h:decide ((16384:Int)<(s.length:Nat))with
 |true=>simp
 |false=>
  have aH:s.length<=16384:=axv;have:=aaG (s.length+1) (eS false s) (s.drop (eS false s)) axv;grind
theorem amK{s:ax}(h:16384<s.length):ja s=([],0,31):=by
 grind[ja]
section
attribute [local irreducible] Int.decLt Int.decLe Int.instDecidableEq IntKind.wrap instDecidableEqList
theorem amL(s:ax):aM 52 [.d (.str s)] [] (xf (ja s)) []:=by
 by_cases h1:s.length<=1073741824
 .grind[amG]
 .rw[amK axs];have h:decide ((16384:Int)<(s.length:Nat))=true:=azO axs;refine KV.fh ?_;refine bj ?_;exact⟨axr,axr⟩
end
end Go.Proofs.YtmgpekpnidjfoaaGreatDoor
