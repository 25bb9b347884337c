/- Part of parts_said. -/
import Derived.Test.YthffhbakgmemaaaGreatDoorB10
set_option maxRecDepth 100000
set_option maxHeartbeats 8000000
set_option linter.unusedSimpArgs false
set_option linter.unusedVariables false
namespace Go.Proofs.YthffhbakgmemaaaGreatDoor
open Go Go.aG
attribute [local irreducible] bD
def l'(zs:List Int):List fb:=zs.map λz=>fb.d (int z)
def lj:List Int->ah
 |[]=>.own 1 []
 |z::l=>.raw 1 (l.length+1) (l' (z::l))
theorem NV{l:List Int}{n:Nat}(h:l.length=n+1):lj l=.raw 1 (n+1) (l' l):=by
 cases l with
 |nil=>cases h
 |cons z l=>rw[<-h];rfl
theorem ati{a:bd}(h:a=bd.bU)(zs:List Int):a.yn (l' zs)=some (b8 zs):=by
 subst h;show some (jS (l' zs))=_;unfold jS l' b8;rw[aDF];rfl
theorem atj(L:List D):aL 154 [.d (.list 1 L)] [] (.func 202 [] [.ptr 0 0]) [.box [.d (.list 1 L)]]:=by
 refine YV.ct λc ae Q a=> ?_;refine ak ?_
 (subst ae;exact bS a az7 az5)
def NW(L:List D)(k i:Nat)(v:ah):ag:=cA [(0,.f' 2),(5,.d (.list 1 L)),(6,.d (int (Int.ofNat k))),(7,.d (int (Int.ofNat i)))] [.box [.d (.list 1 L)],.box [v],.dead]
theorem atk(l:List Int)(s:l.length<=1073741824):aL 237 [.own 1 [],.func 202 [] [.ptr 0 0]] [.box [.d (.list 1 (l.map int))]] (lj l) [.box [.d (.list 1 (l.map int))]]:=by
 have u:(l.map int).length=l.length:=aCv _;have o:∀i (h:i<l.length),(l.map int)[i]?=some (int l[i]):=λi h=>cY h;generalize l.map int=L at*;refine XK.ct λa ae Q d=> ?_;refine ak ?_;refine⟨Mm,Y8,?_⟩;refine ak ?_;refine⟨bX (λi=>NW L (a.len L) i (lj (l.take i))) (λi=>i<=l.length) (λi=>l.length-i),_,⟨0,aCu _,rfl,az5⟩,?_⟩;rintro _ _ ⟨i,p,rfl,rfl⟩;dsimp only at p⊢;have g:(l.take i).length=i:=az8;by_cases j:i<l.length
 .have t1:a.aB .lss (Int.ofNat i) (Int.ofNat (a.len L))=true:=by simp_all[aH]
  have t3:=cH ae (o i j);have t6:=b9 ae (n:=i) az6;have c:l.take (i+1)=l.take i++[l[i]]:=az7;have cy:a.AN (l' (l.take i)) [fb.d (int l[i])]=some (l' (l.take (i+1))):=by subst ae;rw[c];unfold l';rw[aCR];rfl
  have kG:a.l3 i 1=i+1:=aAc;have pc:a.AO 1 1 i 1 17592186044416=true:=aCj;have af:lj (l.take (i+1))=.raw 1 (i+1) (l' (l.take (i+1))):=NV az9;have f:∀{st:ag},st=NW L (a.len L) (i+1) (lj (l.take (i+1)))->∃m,m<l.length-i/\bX (λi=>NW L (a.len L) i (lj (l.take i))) (λi=>i<=l.length) (λi=>l.length-i) m st:=λh=>ea (i+1) j az6 h;rw[af]at f;cases i with
  |zero=>
   have bB:l' (l.take 1)=[fb.d (int l[0])]:=by rw[c];rfl
   rw[bB]at f;clear cy af c bB g;generalize l[0]=x at*;rw[show lj (List.take 0 l)=.own 1 []from rfl];refine ak ?_;exact f az5
  |succ k=>
   have bB:lj (l.take (k+1))=.raw 1 (k+1) (l' (l.take (k+1))):=NV g;rw[bB];clear bB af g c p;generalize l[k+1]=x at*;generalize l' (l.take (k+1+1))=r at*;generalize l' (l.take (k+1))=t at*;generalize w:k+1+1=k2 at*;generalize k+1=k1 at*;refine ak ?_;exact f az5
 .have t1:a.aB .lss (Int.ofNat i) (Int.ofNat (a.len L))=false:=by simp_all[aH]
  have A:i=l.length:=az6;have c:l.take i=l:=aDd az6;rw[c];clear g c o;cases l with
  |nil=>
   rw[show lj []=.own 1 []from rfl]at d⊢;refine ak ?_
   (subst ae;exact bS d az7 az5)
  |cons z l=>
   have bB:lj (z::l)=.raw 1 (l.length+1) (l' (z::l)):=rfl;rw[bB]at d⊢;clear bB;generalize l' (z::l)=R at*;generalize v:l.length+1=k at*;refine ak ?_
   (subst ae;exact bS d az7 az5)
theorem aen(l:List Int)(c:l.length<=1073741824):aL 200 [.func 202 [] [.ptr 0 0]] [.box [.d (.list 1 (l.map int))]] (lj l) [.box [.d (.list 1 (l.map int))]]:=by
 have aj:=atk l c;generalize l.map int=L at*;refine Xw.ct λd ae Q a=> ?_;cases l with
 |nil=>
  replace a:Q (.own 1 []) _:=a;replace aj:bD _ _ _ _ _ (.own 1 []) _:=aj;refine ak ?_
  (subst ae;exact bS a az7 az5)
 |cons z l=>
  have bB:lj (z::l)=.raw 1 (l.length+1) (l' (z::l)):=rfl;rw[bB]at a aj;generalize l' (z::l)=R at*;generalize l.length+1=k at*;refine ak ?_
  (subst ae;exact bS a az7 az5)
theorem atl(zs:List Int)(h:zs.length<=1073741824):∃a:List Int,a.Perm zs/\aL 201 [.aP 0 0 zs.length zs.length 1] [.box (b8 zs)] (.tuple []) [.box (b8 a)]:=⟨_,List.mergeSort_perm _ _,ana ab2 ab3 zs h⟩
theorem atm:aL 201 [.d (.list 1 [])] [] (.tuple []) []:=anb ab2 ab3
theorem atn:aL 153 [.func 202 [] [.ptr 0 0]] [.box [.d (.list 1 [])]] (.d (.list 1 [])) [.box [.d (.list 1 [])]]:=by
 have aj:=aen [] az';have aC:=atm;replace aj:aL 200 [.func 202 [] [.ptr 0 0]] [.box [.d (.list 1 [])]] (.own 1 []) [.box [.d (.list 1 [])]]:=aj;refine Mk.ct λc ae Q a=> ?_;refine ak ?_
 (subst ae;exact bS a az7 az5)
theorem ato(l:List Int)(n:Nat)(a:l.length=n+1)(f:n<1073741824):∃zs:List Int,zs.Perm l/\aL 153 [.func 202 [] [.ptr 0 0]] [.box [.d (.list 1 (l.map int))]] (.aP 1 0 (n+1) (n+1) 1) [.box [.d (.list 1 (l.map int))],.box (b8 zs)]:=by
 have aj:=aen l az6;obtain⟨zs,hp,aC⟩:=atl l az6;refine⟨zs,hp,?_⟩;rw[a]at aC;rw[NV a]at aj;refine Mk.fX [1] λd ae Q c=> ?_;have cp:=ati ae l;obtain⟨d1,d2,d3⟩:=aV.of ae (ez l);obtain⟨w1,b5,eG⟩:=aV.of ae (ez zs);generalize l.map int=L at*;generalize l' l=R at*;generalize b8 l=C at*;generalize b8 zs=g at*;generalize n+1=k at*;refine ak ?_;omega
theorem aeo:∀zs:List Int,ja (b8 zs)=some (zs.map int)
 |[]=>rfl
 |z::l=>by
  show(match ja (b8 l)with|some xs=>some (int z::xs)|none=>none)=_;rw[aeo l];rfl
theorem aep:∀l:List D,chunks 1 l.length l=l
 |[]=>rfl
 |x::l=>by show x::chunks 1 l.length l=_;rw[aep l]
theorem atp{a:bd}(h:a=bd.bU)(zs:List Int){n i:Nat}(g:zs.length=n)(hi:i<=n):a.AP 0 i n 1 (b8 zs)=some (.list 1 ((zs.take i).map int)):=by
 subst h;have h1:((b8 zs).drop 0).take (i*1)=b8 (zs.take i):=by simp_all[b8]
 have c:((zs.take i).map int).all jt=true:=aCQ.2 λx d=>by obtain⟨z,_,rfl⟩:=aCY.1 d;rfl
 have f:chunks 1 i ((zs.take i).map int)=(zs.take i).map int:=by
  have:=aep ((zs.take i).map int);simp_all
 show cond (Nat.ble i n&&Nat.blt 0 1&&Nat.ble (0+i*1) (b8 zs).length) (match ja (((b8 zs).drop 0).take (i*1))with
  |some l=>cond (l.all jt) (some (D.list 1 (chunks 1 i l))) none
  |none=>none) none=_
 rw[pD,aDl,aEL,aDG hi,aDG (show i<=zs.length by omega)];rw[aEL]at h1;rw[h1,aeo];dsimp only;rw[c,f];rfl
theorem aeq{a:bd}(h:a=bd.bU)(o i:Nat):a.la o (Int.ofNat i) 1=o+i:=by
 subst h;show o+i*1=_;simp
theorem aer{c:bd}(h:c=bd.bU)(a b:Int):c.aB .eql a b=decide (a=b):=(eS h).1 a b
theorem Bq{c:bd}(h:c=bd.bU){a b:Nat}(d:a≠b):c.aB .eql (Int.ofNat a) (Int.ofNat b)=false:=by
 rw[(eS h).1];grind
theorem atq:aL 152 [.d (.list 1 [])] [] (.d (.list 1 [])) []:=by
 refine Mv.ct λa ae Q c=> ?_;have t1:a.aB .lss (Int.ofNat 0) 2=true:=aAZ;have t2:a.len []=0:=aAc;refine ak ?_
 (subst ae;exact bS c az7 az5)
def atr(C:List ah)(n k:Nat):ag:=cA [(0,.aP 0 0 n n 1),(3,.d (int (Int.ofNat k)))] [.box C]
def ats(C:List ah)(n k m i j:Nat):ag:=cA [(0,.aP 0 0 n n 1),(3,.d (int (Int.ofNat i))),(4,.aP 0 k m m 1),(5,.d (int (Int.ofNat j)))] [.box C]
structure tC(n m:Nat)(zs:List Int):Prop where
 len:zs.length=n
 all:kR m zs
theorem tC.at{n m:Nat}{zs:List Int}(h:tC n m zs){i:Nat}(hi:i<n):gp m (zs.getD i 0)=true:=by
 have a:=h.len;rw[aC4,aCB az6];exact h.all _ (aCC _)
theorem tC.lo{a:bd}(c:a=bd.bU){zs:List Int}{C:List ah}{n m:Nat}(f:C=b8 zs)(h:tC n m zs){p:Nat}(hp:p<n):
  ∃x:Int,x=zs.getD p 0/\gp m x=true/\a.ha p 1 C true=true/\a.kM C p=.d (int x):=by
 have d:=h.len;exact⟨_,rfl,h.at hp,tw c aA1,by grind[HP]⟩
theorem tC.set{n m:Nat}{zs:List Int}(h:tC n m zs){i:Nat}{x:Int}(c:gp m x=true):tC n m (zs.set i x):=⟨by grind[len],λz a=>by
 rcases aD7 a with a|rfl
 .exact h.all z a
 omega⟩
structure oN(z zs:List Int)(i e:Nat):Prop where
 t:∀p,e<=p+1->zs.getD p 0=z.getD p 0
 a:∀x∈z,x∈zs.take i\/x∈z.drop e
 b:∀x∈zs.take i,x∈z
 l:z.getD (e-1) 0∈zs.take i
theorem aes{z:List Int}{e:Nat}(h:e<z.length):z.drop e=z.getD e 0::z.drop (e+1)/\z.getD e 0∈z:=by
 rw[aC4,aCB h];exact⟨aEK h,aCC h⟩
theorem oN.skip{z zs:List Int}{i e:Nat}(h:oN z zs i e)(d:e<z.length)(c:z.getD e 0=z.getD (e-1) 0):oN z zs i (e+1):=by
 obtain⟨t,a,b,l⟩:=h;have:=aes d;exact⟨λp hp=>t p az6,λx c=>az9,b,az9⟩
theorem oN.init{z:List Int}{k:Nat}(bB:1<=k)(c:k<z.length)(a:z.getD k 0=z.getD (k-1) 0):oN z z k (k+1):=
 oN.skip ⟨λ_ _=>rfl,λx h=>by rw[<-aC9,aD6];exact h,λx h=>List.mem_of_mem_take h,by
  rw[aC4,aCB az6];exact List.mem_take_iff_getElem.2 ⟨k-1,az6,rfl⟩⟩ c a
theorem oN.put{z zs:List Int}{i e:Nat}(h:oN z zs i e)(c:e<z.length)(d:zs.length=z.length)(hi:i<e):oN z (zs.set i (z.getD e 0)) (i+1) (e+1):=by
 obtain⟨t,a,b,l⟩:=h;have:=aes c;have f:(zs.set i (z.getD e 0)).take (i+1)=zs.take i++[z.getD e 0]:=by
  rw[aDg,aFf (aCw _),aDf az6];rfl
 refine⟨λp hp=> ?_,?_,?_,?_⟩
 .rw[<-t p az6,aC4,aDb az6,aC4]
 all_goals grind
theorem oN.fin{z zs:List Int}{i e:Nat}(h:oN z zs i e)(a:z.length<=e)(x:Int):x∈zs.take i↔x∈z:=by
 have:=h.a;have:=h.b;rw[aF0 a]at*;grind
theorem att(n m:Nat)(zs:List Int)(d:tC n m zs)(bB:0<n)(aq:n<=1073741824):∃w:List Int,(w.length<=n/\kR m w/\∀x,x∈w↔x∈zs)/\aL 152 [.aP 0 0 n n 1] [.box (b8 zs)] (.d (.list 1 (w.map int))) [.dead]:=by
 refine eW ?_;refine Mv.iX [0] _ λc ae ar J=> ?_;obtain⟨bP,bZ,cx⟩:=HU ae;have P:=J (.d (.list 1 (zs.map int))) [.dead] ⟨zs,⟨by rw[d.len];simp,d.all,λ_=>Iff.rfl⟩,rfl,rfl⟩;have sH:=d.len;have cb:=aek ae zs d.len;obtain⟨d1,d2,d3⟩:=aV.of ae (ez zs);generalize zs.map int=Z at P cb;generalize hC:b8 zs=C at*;replace hC:=hC.symm;have t0:c.aB .lss (Int.ofNat n) 2=decide (n<2):=by
  rw[(eS ae).2.1];grind
 by_cases af:n<2
 .rw[aCI af]at t0;refine ak ?_;simp_all
 rw[aC3 af]at t0;refine ak ?_;clear t0;refine⟨bX (λk:Nat=>atr C n k) (λk=>1<=k) (λk=>n-k),_,⟨1,aCw _,rfl,az5⟩,?_⟩;rintro _ _ ⟨k,E,rfl,rfl⟩;replace E:1<=k:=E;by_cases v:k<n
 .have t1:=ek ae v;obtain⟨t,F⟩:∃t,k=t+1:=⟨k-1,az6⟩;have t2:=qx ae F az6;have t3:=b9 ae (n:=k) az6;obtain⟨x,o,A,fw,eY⟩:=d.lo ae hC v;obtain⟨y,u,G,v1,v2⟩:=d.lo ae hC (p:=t) az6;have fa:c.dS 1 1 (Int.ofNat k) n=true:=e7 ae v;have v3:c.dS 1 1 (Int.ofNat t) n=true:=e7 ae az6;have fG:=l8 ae k;have v4:=l8 ae t;cases cI:c.aB .eql x y with
  |false=>
   refine ak ?_;exact ea (k+1) az7 az6 az5
  |true=>
   have f:oN zs zs k (k+1):=oN.init E az6 (by rw[aer ae,o,u,F]at cI;rw[F];exact of_decide_eq_true cI);have w1:c.mC true (Int.ofNat k) (Int.ofNat n) (Int.ofNat n) n=true:=qH ae az6 (aCw _) (aCw _);have b5:=Bq ae (a:=k) (b:=n) az6;have eG:=l9 ae n k;obtain⟨q,aS⟩:∃q,q=n-k:=⟨_,rfl⟩;rw[<-aS]at eG;refine ak ?_;refine⟨bX (λz:(Nat×Nat)×List ah=>ats z.2 n k q z.1.1 z.1.2) (λz=>(1<=z.1.2/\z.1.1<k+z.1.2/\z.1.2<=q/\k<=z.1.1)/\∃B,z.2=b8 B/\tC n m B/\oN zs B z.1.1 (k+z.1.2)) (λz=>q-z.1.2),_,⟨((k,1),C),⟨⟨aCw _,az7,az9,aCw _⟩,zs,hC,d,f⟩,rfl,az5⟩,?_⟩;clear d1 d2 d3 fw eY fa fG v1 v2 v3 v4 cI t1 t2 t3 cb P w1 b5 eG hC d A G o u x y f;rintro _ _ ⟨⟨⟨i,j⟩,C⟩,⟨⟨V,M,qK,N⟩,zs,hC,d,f⟩,rfl,rfl⟩;dsimp only at V M qK N hC f⊢;obtain⟨d1,d2,d3⟩:=aV.of ae (ez zs);rw[<-hC]at d1 d2 d3;by_cases s:j<q
   .have t1:=ek ae s;obtain⟨g,Q⟩:∃g,j=g+1:=⟨j-1,az6⟩;have t2:=qx ae Q az6;have t3:=b9 ae (n:=j) az6;have t4:=b9 ae (n:=i) az6;obtain⟨x,o,A,fw,eY⟩:=d.lo ae hC (p:=k+j) az6;obtain⟨y,u,G,v1,v2⟩:=d.lo ae hC (p:=k+g) az6;have fa:c.dS 1 1 (Int.ofNat j) q=true:=e7 ae s;have v3:c.dS 1 1 (Int.ofNat g) q=true:=e7 ae az6;have fG:=aeq ae k j;have v4:=aeq ae k g;have eG:c.dS 1 1 (Int.ofNat i) n=true:=e7 ae az6;have jw:=l8 ae i;have U:=d.len;have ni:c.lE true i 1 C true=true:=wT ae aA1;have wc:c.kN C i [.d (int x)]=some (b8 (zs.set i x)):=by grind[tz,Bk]
    have X:=d.set (i:=i) A;obtain⟨g1,g2,g3⟩:=aV.of ae (ez (zs.set i x));rw[f.t _ az6]at o u;have H:=λh=>f.skip az6 (show _=_ from h);have R:=f.put az6 az6 M;rw[show k+j-1=k+g by omega,<-o,<-u]at H;rw[<-o]at R;generalize zs.set i x=L at*;generalize Y:b8 L=K at*;generalize aB:k+j=p at*;generalize k+g=uY at*;cases cI:c.aB .neq x y with
    |false=>
     refine ak ?_;exact fixF ((i,j+1),C) ⟨⟨az7,az9,s,N⟩,zs,hC,d,by have:=H (by subst ae;replace cI:(!decide (x=y))=false:=cI;simpa using cI);grind⟩
    |true=>
     refine ak ?_;exact fixF ((i+1,j+1),K) ⟨⟨az7,az9,s,az9⟩,L,Y.symm,X,az9⟩
   .have t1:=en ae s;have di:i<n:=az6;have fw:c.mC true (Int.ofNat i) (Int.ofNat n) (Int.ofNat n) n=true:=qH ae az6 (aCw _) (aCw _);have eY:=Bq ae (a:=i) (b:=n) az6;have fa:=l8 ae i;have fG:=l9 ae n i;obtain⟨r,S⟩:∃r,r=n-i:=⟨_,rfl⟩;rw[<-S]at fG;have U:=d.len;have g':c.wy true i r 1 C=true:=adX ae aA1;have lb:c.qp C i r [.d (int 0)]=some (b8 (zs.take i++List.replicate r 0)):=by
     have h1:c.qp C i r [.d (int 0)]=some (putCells C i (List.replicate r [ah.d (int 0)]).flatten):=aAc;have af:(List.replicate r [ah.d (int 0)]).flatten=List.replicate r (ah.d (int 0)):=az7;grind[NF,b8,List.drop_eq_nil_of_le,List.map_take,List.map_replicate]
    have gY:(zs.take i++List.replicate r (0:Int)).length=n:=az9;have kr:(zs.take i++List.replicate r (0:Int)).take i=zs.take i:=az9;have cb:=atp ae (zs.take i++List.replicate r (0:Int)) gY (i:=i) az6;rw[kr]at cb;have eP:=J (.d (.list 1 ((zs.take i).map int))) [.dead] ⟨zs.take i,⟨az9,λz gw=>d.all z (List.mem_of_mem_take gw),f.fin az6⟩,rfl,rfl⟩;obtain⟨g1,g2,g3⟩:=aV.of ae (ez (zs.take i++List.replicate r 0));generalize (zs.take i).map int=Z at*;generalize b8 (zs.take i++List.replicate r (0:Int))=K at*;have v1:c.mC true 0 (Int.ofNat i) (Int.ofNat n) n=true:=qH (l:=0) ae az6 az6 (aCw _);have v2:c.aB .eql 0 (Int.ofNat n)=false:=Bq ae (a:=0) (b:=n) az6;have v3:c.la 0 0 1=0:=l8 ae 0;have v4:c.ns (Int.ofNat i) 0=i:=l9 ae i 0;have v5:c.ns (Int.ofNat n) 0=n:=l9 ae n 0;refine ak ?_;simp_all
 .have t1:=en ae v;refine ak ?_;simp_all
theorem atu{c:bd}(h:c=bd.bU){a b:Int}(h1: -9223372036854775808<=a-b)(g:a-b<=9223372036854775807):c.io .sub .i64 a b=a-b:=by
 subst h;show IntKind.wrap .i64 (a-b)=_;have f:(2:Int)^(64-1)=9223372036854775808:=az';have d:(2:Int)^64=18446744073709551616:=az';simp only[IntKind.wrap,IntKind.signed,IntKind.bits,f,d,aEs,aCA];split<;>omega
def pF:List Int->Nat
 |[]=>0
 |v::l=>(if 1<=v then 1 else 0)+pF l
theorem aev:∀l:List Int,pF l<=l.length
 |[]=>aCw _
 |v::l=>by
  show(if 1<=v then 1 else 0)+pF l<=l.length+1;have:=aev l;split<;>omega
theorem aew:∀(l:List Int) (i:Nat) (x:Int),i<l.length->pF (l.set i x)+(if 1<=l.getD i 0 then 1 else 0)=pF l+(if 1<=x then 1 else 0)
 |v::l,0,x,_=>by
  show((if 1<=x then 1 else 0)+pF l)+(if 1<=v then 1 else 0)=((if 1<=v then 1 else 0)+pF l)+(if 1<=x then 1 else 0);omega
 |v::l,i+1,x,h=>by
  have a:=aew l i x (aGb h);show((if 1<=v then 1 else 0)+pF (l.set i x))+(if 1<=l.getD i 0 then 1 else 0)=((if 1<=v then 1 else 0)+pF l)+(if 1<=x then 1 else 0);omega
structure nA(n S lo:Nat)(left R:List Int):Prop where
 len:left.length=n
 all:kR n R
 low:∀v∈left,-(Int.ofNat lo)<=v/\v<=1099511627776
 sum:pF left+R.length=S
theorem nA.at{n S lo:Nat}{left R:List Int}(h:nA n S lo left R){i:Nat}(hi:i<n): -(Int.ofNat lo)<=left.getD i 0/\left.getD i 0<=1099511627776:=by
 have a:=h.len;rw[aC4,aCB az6];exact h.low _ (aCC _)
theorem nA.mono{n S lo a:Nat}{left R:List Int}(h:nA n S lo left R)(d:lo<=a):nA n S a left R:=⟨h.len,h.all,λv c=>by
 have:=h.low v c;simp only[aCy]at*;omega,h.sum⟩
theorem nA.dec{n S lo:Nat}{left R:List Int}(h:nA n S lo left R){i:Nat}(hi:i<n){R2:List Int}(f:kR n R2)(g:(left.getD i 0=1/\R2.length=R.length+1)\/(left.getD i 0≠1/\R2.length=R.length)):nA n S (lo+1) (left.set i (left.getD i 0-1)) R2:=by
 have aE:=h.len;have k:=h.at hi;have c:=aew left i (left.getD i 0-1) az6;have j:=h.sum;refine⟨aBS,f,λv a=> ?_,?_⟩
 .rcases aD7 a with a|rfl
  .have:=h.low v a;simp only[aCy]at*;omega
  .simp only[aCy]at*;omega
 .generalize left.getD i 0=v at*;rcases g with⟨h1,d⟩|⟨h1,d⟩
  .subst h1;rw[aCT az',aCV az']at c;omega
  .have:(if 1<=v-1 then 1 else 0)=(if 1<=v then 1 else 0:Nat):=by
    by_cases a:1<=v
    .rw[aCT a,aCT az6]
    .rw[aCV a,aCV az6]
   rw[this]at c;omega
structure oO(n:Nat)(N:List ah):Prop where
 len:N.length=n
 flat:Flat N
 get:∀i,i<n->∃l:List Int,(kR n l/\l.length<=1073741824)/\snap (N.getD i .undef)=.d (.list 1 (l.map int))
theorem oO.lo{a:bd}(c:a=bd.bU){n:Nat}{N:List ah}(h:oO n N){i:Nat}(hi:i<n):∃l:List Int,(kR n l/\l.length<=1073741824)/\a.dS 1 1 (Int.ofNat i) n=true/\a.la 0 (Int.ofNat i) 1=i/\a.ha i 1 N true=true/\a.kM N i=.d (.list 1 (l.map int)):=by
 obtain⟨l,d,f⟩:=h.get i hi;exact⟨l,d,e7 c hi,l8 c i,tw c (by rw[h.len];exact hi),by subst c;exact f⟩
theorem Eb{a:bd}(c:a=bd.bU){zs:List Int}{C:List ah}{n:Nat}(d:C=b8 zs)(f:zs.length=n){p:Nat}(hp:p<n):
  a.dS 1 1 (Int.ofNat p) n=true/\a.la 0 (Int.ofNat p) 1=p/\a.ha p 1 C true=true/\a.lE true p 1 C true=true/\a.kM C p=.d (int (zs.getD p 0)):=
 ⟨e7 c hp,l8 c p,tw c (by rw[d,pD];omega),wT c (by rw[d,pD];omega),by rw[d];exact HP c az6⟩
def atv(N M D L:List ah)(n i:Nat)(R:List Go.aG.D):ag:=cA [(0,.ptr 0 0),(3,.own 1 R),(4,.aP 4 0 n n 1),(20,.aP 1 0 n n 1),(21,.d (int (Int.ofNat n))),(22,.d (int (Int.ofNat i)))] [.box (cv 1 2 3 n),.box N,.box M,.box D,.box L]
def atw(N M D L:List ah)(n k:Nat)(R:List Go.aG.D):ag:=cA [(0,.ptr 0 0),(3,.own 1 R),(4,.aP 4 0 n n 1),(7,.d (int (Int.ofNat k)))] [.box (cv 1 2 3 n),.box N,.box M,.box D,.box L]
def NY(N M D L:List ah)(n k:Nat)(R:List Go.aG.D)(d:Nat)(B:List Go.aG.D)(b j:Nat):ag:=cA [(0,.ptr 0 0),(3,.own 1 R),(4,.aP 4 0 n n 1),(7,.d (int (Int.ofNat k))),(8,.d (int (Int.ofNat d))),(56,.d (.list 1 B)),(57,.d (int (Int.ofNat b))),(58,.d (int (Int.ofNat j)))] [.box (cv 1 2 3 n),.box N,.box M,.box D,.box L]
set_option maxHeartbeats 20000000 in
theorem atx{N M:List ah}(n:Nat)(aq:n<=1024)(b4:oO n N)(ck:oO n M)(a:List Int)(s:a.length=n):∃(b:Bool) (F:List Int),F.length=n/\aL 155 [.ptr 0 0] [.box (cv 1 2 3 n),.box N,.box M,.box (b8 a)] (.d (.bool b)) [.box (cv 1 2 3 n),.box N,.box M,.box (b8 F)]:=by
 suffices h:∃aP s',(∃(b:Bool) (F:List Int),F.length=n/\aP=.d (.bool b)/\s'=[.box (cv 1 2 3 n),.box N,.box M,.box (b8 F)])/\aL 155 [.ptr 0 0] [.box (cv 1 2 3 n),.box N,.box M,.box (b8 a)] aP s' by
  obtain⟨_,_,⟨b,F,h1,rfl,rfl⟩,h⟩:=h;exact⟨b,F,h1,h⟩
 refine Vd.iX [1,2,3,4] _ λf ae bg P=> ?_;obtain⟨bp,a2,a3⟩:=aV.of ae b4.flat;obtain⟨bq,aT,b3⟩:=aV.of ae ck.flat;obtain⟨c1,c2,c3⟩:=aV.of ae (ez a);obtain⟨d1,d2,d3⟩:=aV.of ae (ez (List.replicate n 0));have cb:f.wz (Int.ofNat n) 137438953472=true:=by
  subst ae;show(decide ((0:Int)<=Int.ofNat n)&&decide (Int.ofNat n<=137438953472))=true;simp only[aCy,aCx,aCA];omega
 have cp:f.ym n [.d (int 0)]=some (b8 (List.replicate n 0)):=by
  subst ae;show some (List.replicate n [ah.d (int 0)]).flatten=_;congr 1;unfold b8;rw[aFX];simp
 have fj:∃left:List Int,b8 (List.replicate n 0)=b8 left/\left.length=n/\∀v∈left,0<=v/\v<=1099511627776:=⟨_,rfl,aEF,λv E=>by rw[(List.mem_replicate.1 E).2];decide⟩;unfold cv at*;generalize b8 (List.replicate n 0)=C at*;generalize m:b8 a=D at*;replace m:=m.symm;refine ak ?_;refine⟨bX (λz:Nat×List Go.aG.D×List ah=>atv N M D z.2.2 n z.1 z.2.1) (λz=>(∃R:List Int,z.2.1=R.map int/\kR n R/\R.length<=z.1)/\z.1<=n/\∃left:List Int,z.2.2=b8 left/\left.length=n/\∀v∈left,0<=v/\v<=1099511627776) (λz=>n-z.1),_,⟨(0,[],C),⟨⟨[],rfl,λ_ h=>(aC5 h).elim,aCw _⟩,aCu _,fj⟩,rfl,az5⟩,?_⟩;clear cb cp d1 d2 d3 fj;rintro _ _ ⟨⟨i,R,C⟩,⟨⟨rs,bK,w,oa⟩,B,left,o,aE,mK⟩,rfl,rfl⟩;dsimp only at bK oa B o⊢;obtain⟨d1,d2,d3⟩:=aV.of ae (ez left);rw[<-o]at d1 d2 d3;have H:R.length=rs.length:=by rw[bK,aCv]
 by_cases c:i<n
 .have t1:=ek ae c;have t6:=b9 ae (n:=i) az6;obtain⟨l,⟨_,ot⟩,fw,eY,fa,fG⟩:=b4.lo ae c;have wX:(l.map int).length=l.length:=aCv _;generalize l.map int=L at*;obtain⟨v1,v2,v3,v4,_⟩:=Eb ae o aE c;have t2:f.len L=l.length:=by subst ae;exact wX
  have t3:f.aB .eql (Int.ofNat l.length) 0=decide (l.length=0):=by
   rw[(eS ae).1];by_cases e:l.length=0
   .rw[aCI e,e];rfl
   .rw[aC3 e];exact aC3 λx=>e (aEG x)
  have v5:f.kN C i [.d (int (Int.ofNat l.length))]=some (b8 (left.set i (Int.ofNat l.length))):=by rw[tz ae,o,Bk]
  have V:(left.set i (Int.ofNat l.length)).length=n:=aBS;have ai:∀v∈left.set i (Int.ofNat l.length),0<=v/\v<=1099511627776:=λv E=>by
   rcases aD7 E with E|rfl
   .exact mK v E
   .simp only[aCy];omega
  obtain⟨w1,b5,eG⟩:=aV.of ae (ez (left.set i (Int.ofNat l.length)));generalize left.set i (Int.ofNat l.length)=G at*;generalize U:b8 G=J at*;generalize l.length=q at*;cases aS:decide (q=0)with
  |true=>
   rw[aS]at t3;have Z:gp n (Int.ofNat i)=true:=by unfold gp;rw[aCx];exact⟨aCI (aEf _),aCI (aDN.2 c)⟩
   refine ak ?_
   all_goals exact ea (i+1,f.app R [int (Int.ofNat i)],J) ⟨⟨rs++[Int.ofNat i],aBT,λz aM=>by
    rcases aC9.1 aM with aM|aM
    .exact w z aM
    .rw[aCS.1 aM];exact Z,by show(rs++[_]).length<=i+1;rw[aCF];show rs.length+1<=_;omega⟩,c,G,U.symm,V,ai⟩ (by show n-(i+1)<n-i;omega) az5
  |false=>
   rw[aS]at t3;refine ak ?_;exact ea (i+1,R,J) ⟨⟨rs,bK,w,by show rs.length<=i+1;omega⟩,c,G,U.symm,V,ai⟩ (by show n-(i+1)<n-i;omega) az5
 have t1:=en ae c;refine ak ?_;clear t1 c b4;have tD:nA n (pF left+rs.length) 0 left rs:=⟨aE,w,λv E=>by have:=mK v E;simp only[aCy];omega,rfl⟩;have eI:pF left+rs.length<=2048:=by have:=aev left;omega
 generalize pF left+rs.length=S at*;refine⟨bX (λz:Nat×List Go.aG.D×List ah×List ah=>atw N M z.2.2.1 z.2.2.2 n z.1 z.2.1) (λz=>∃rs left a:List Int,(z.2.1=rs.map int/\z.2.2.1=b8 a/\z.2.2.2=b8 left)/\a.length=n/\nA n S (z.1*1073741824) left rs/\z.1<=rs.length) (λz=>S-z.1),_,⟨(0,R,D,C),⟨rs,left,a,⟨bK,m,o⟩,s,by show nA n S (0*1073741824) _ _;rw[aDV];exact tD,aCu _⟩,rfl,az5⟩,?_⟩;clear tD o m bK s aE mK w H oa d1 d2 d3 c1 c2 c3;rintro _ _ ⟨⟨k,R,D,C⟩,⟨rs,left,a,⟨bK,m,o⟩,s,r,X⟩,rfl,rfl⟩;dsimp only at bK m o r X⊢;obtain⟨c1,c2,c3⟩:=aV.of ae (ez a);rw[<-m]at c1 c2 c3;obtain⟨d1,d2,d3⟩:=aV.of ae (ez left);rw[<-o]at d1 d2 d3;have H:R.length=rs.length:=by rw[bK,aCv]
 obtain⟨q,aS⟩:∃q,q=rs.length:=⟨_,rfl⟩;have t0:f.len R=q:=by subst ae;exact H.trans aS.symm
 have ar:rs.length<=S:=by have:=r.sum;omega
 by_cases c:k<q
 .have t1:=ek ae c;replace c:k<rs.length:=by omega
  obtain⟨d,yX,HV⟩:=pC (r.all _ (aCC c));have t3:f.get R (Int.ofNat k)=int (Int.ofNat d):=cH ae (by rw[bK];rw[<-HV];exact cY c);have t6:=b9 ae (n:=k) az6;obtain⟨l,⟨jX,ot⟩,fw,eY,fa,fG⟩:=ck.lo ae yX;have wX:(l.map int).length=l.length:=aCv _;have bY:∀i (h:i<l.length),(l.map int)[i]?=some (int l[i]):=λi h=>cY h;generalize l.map int=L at*;obtain⟨g,aF⟩:∃q,q=l.length:=⟨_,rfl⟩;have t2:f.len L=g:=by subst ae;exact wX.trans aF.symm
  refine ak ?_;refine⟨bX (λz:Nat×List Go.aG.D×List ah×List ah=>NY N M z.2.2.1 z.2.2.2 n k z.2.1 d L g z.1) (λz=>∃rs left a:List Int,(z.2.1=rs.map int/\z.2.2.1=b8 a/\z.2.2.2=b8 left)/\a.length=n/\nA n S (k*1073741824+z.1) left rs/\k<rs.length/\z.1<=l.length) (λz=>l.length-z.1),_,⟨(0,R,D,C),⟨rs,left,a,⟨bK,m,o⟩,s,by show nA n S (k*1073741824+0) left rs;rw[aDc];exact r,c,aCu _⟩,rfl,az5⟩,?_⟩;clear t0 t1 t2 t3 fw eY fa fG bK m o s r X c H aS c1 c2 c3 d1 d2 d3 HV ar;rintro _ _ ⟨⟨j,R,D,C⟩,⟨rs,left,a,⟨bK,m,o⟩,s,r,X,aI⟩,rfl,rfl⟩;dsimp only at bK m o r aI⊢;obtain⟨c1,c2,c3⟩:=aV.of ae (ez a);rw[<-m]at c1 c2 c3;obtain⟨d1,d2,d3⟩:=aV.of ae (ez left);rw[<-o]at d1 d2 d3;have H:R.length=rs.length:=by rw[bK,aCv]
  have ar:rs.length<=S:=by have:=r.sum;omega
  by_cases c:j<g
  .have t1:=ek ae c;replace c:j<l.length:=by omega
   have t2:=b9 ae (n:=j) az6;obtain⟨i,B,jE⟩:=pC (jX _ (aCC c));have t3:f.get L (Int.ofNat j)=int (Int.ofNat i):=cH ae (by rw[bY j c,jE]);have aE:=r.len;obtain⟨fw,eY,fa,fG,g'⟩:=Eb ae m s B;obtain⟨v1,v2,v3,v4,v5⟩:=Eb ae m s yX;obtain⟨w1,b5,eG,jw,ni⟩:=Eb ae o aE B;obtain⟨y,u8⟩:∃y,f.io .add .i64 (a.getD d 0) 1=y:=⟨_,rfl⟩;have hD:=r.at B;have bh:k*1073741824<=2048*1073741824:=aDi _ az6;have bP:f.io .sub .i64 (left.getD i 0) 1=left.getD i 0-1:=atu ae (by simp only[aCy]at hD;omega) az6;have bZ:f.kN C i [.d (int (left.getD i 0-1))]=some (b8 (left.set i (left.getD i 0-1))):=by rw[tz ae,o,Bk]
   have V:(left.set i (left.getD i 0-1)).length=n:=aBS;obtain⟨_,_,cx,_,nS⟩:=Eb ae rfl V B;have xS:(left.set i (left.getD i 0-1)).getD i 0=left.getD i 0-1:=by rw[aC4,aDf az6];rfl
   rw[xS]at nS;have Z:gp n (Int.ofNat i)=true:=by unfold gp;rw[aCx];exact⟨aCI (aEf _),aCI (aDN.2 B)⟩
   obtain⟨g1,g2,g3⟩:=aV.of ae (ez (left.set i (left.getD i 0-1)));have aQ:=λR2 iu hs=>r.dec B (R2:=R2) iu hs;have uy:=aer ae (left.getD i 0-1) 0;have Y:(left.getD i 0-1=0)↔left.getD i 0=1:=az6;have re:∀z:Int,∃iZ:List Int,iZ.length=n/\f.kN D i [.d (int z)]=some (b8 iZ):=λz=>⟨a.set i z,by rw[aDE];exact s,by rw[tz ae,m,Bk]⟩;have w:=r.all;clear r xS;generalize left.set i (left.getD i 0-1)=G at*;generalize U:b8 G=J at*;generalize left.getD i 0-1=aB at*;have aR:∀z:Int,f.aB .lss (a.getD i 0) y=true/\z=y\/f.aB .lss (a.getD i 0) y=false/\z=a.getD i 0->∃iZ:List Int,iZ.length=n/\f.kN D i [.d (int z)]=some (b8 iZ):=λz _=>re z;generalize a.getD i 0=p at*;generalize a.getD d 0=d' at*;generalize left.getD i 0=v0 at*;have Q:∀(R2:List Go.aG.D) (A iZ:List Int) (t:List ah),R2=A.map int->t=b8 iZ->iZ.length=n->kR n A->((v0=1/\A.length=rs.length+1)\/(v0≠1/\A.length=rs.length))->∀{st:ag},st=NY N M t J n k R2 d L g (j+1)->∃aN,aN<l.length-j/\bX (λz:Nat×List Go.aG.D×List ah×List ah=>NY N M z.2.2.1 z.2.2.2 n k z.2.1 d L g z.1) (λz=>∃rs left a:List Int,(z.2.1=rs.map int/\z.2.2.1=b8 a/\z.2.2.2=b8 left)/\a.length=n/\nA n S (k*1073741824+z.1) left rs/\k<rs.length/\z.1<=l.length) (λz=>l.length-z.1) aN st:=λR2 A iZ t h1 af av aZ bN _ h=>ea (j+1,R2,t,J) ⟨A,G,iZ,⟨h1,af,U.symm⟩,av,by show nA n S (k*1073741824+(j+1)) G A;rw[<-aEg];exact aQ A aZ bN,by show k<A.length;omega,c⟩ (by show l.length-(j+1)<l.length-j;omega) h;clear aR;cases cI:f.aB .lss p y with
   |true=>
    obtain⟨iZ,K,L2⟩:=re (y);obtain⟨aj,aC,aX⟩:=aV.of ae (ez iZ);generalize u:b8 iZ=t at*;replace u:=u.symm;by_cases bB:aB=0
    .rw[aCI bB]at uy;refine ak ?_
     all_goals exact Q (f.app R [int (Int.ofNat i)]) (rs++[Int.ofNat i]) iZ t aBT u K (λz aM=>by
      rcases aC9.1 aM with aM|aM
      .exact w z aM
      .rw[aCS.1 aM];exact Z) (.inl ⟨Y.1 bB,by rw[aCF];rfl⟩) az5
    .rw[aC3 bB]at uy;refine ak ?_;exact Q R rs iZ t bK u K w (.inr ⟨λh=>bB (Y.2 h),rfl⟩) az5
   |false=>
    obtain⟨iZ,K,L2⟩:=re (p);obtain⟨aj,aC,aX⟩:=aV.of ae (ez iZ);generalize u:b8 iZ=t at*;replace u:=u.symm;by_cases bB:aB=0
    .rw[aCI bB]at uy;refine ak ?_
     all_goals exact Q (f.app R [int (Int.ofNat i)]) (rs++[Int.ofNat i]) iZ t aBT u K (λz aM=>by
      rcases aC9.1 aM with aM|aM
      .exact w z aM
      .rw[aCS.1 aM];exact Z) (.inl ⟨Y.1 bB,by rw[aCF];rfl⟩) az5
    .rw[aC3 bB]at uy;refine ak ?_;exact Q R rs iZ t bK u K w (.inr ⟨λh=>bB (Y.2 h),rfl⟩) az5
  .have t1:=en ae c;have ly:nA n S ((k+1)*1073741824) left rs:=r.mono az6;refine ak ?_;exact ea (k+1,R,D,C) ⟨rs,left,a,⟨bK,m,o⟩,s,ly,X⟩ (by show S-(k+1)<S-k;omega) az5
 .have t1:=en ae c;obtain⟨b,hD⟩:∃b,f.aB .eql (Int.ofNat k) (Int.ofNat n)=b:=⟨_,rfl⟩;replace P:=λaU h=>P (.d (.bool b)) aU ⟨b,a,s,rfl,h⟩;rw[<-m]at P;refine ak ?_;exact P _ az5
end Go.Proofs.YthffhbakgmemaaaGreatDoor
