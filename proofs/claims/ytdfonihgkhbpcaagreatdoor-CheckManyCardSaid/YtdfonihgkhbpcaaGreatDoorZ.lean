/- CheckMany: for every text the law's function returns true; the argument reads as it did. Conditions: none. -/
import Derived.Test.YtdfonihgkhbpcaaGreatDoorC0
import Derived.Test.YtdfonihgkhbpcaaGreatDoorC1
import Derived.Test.YtdfonihgkhbpcaaGreatDoorC2
import Derived.Test.YtdfonihgkhbpcaaGreatDoorC3
import Derived.Test.YtdfonihgkhbpcaaGreatDoorC4
import Derived.Test.YtdfonihgkhbpcaaGreatDoorC5
import Derived.Test.YtdfonihgkhbpcaaGreatDoorC6
import Derived.Test.YtdfonihgkhbpcaaGreatDoorC7
import Derived.Test.YtdfonihgkhbpcaaGreatDoorC8
import Derived.Test.YtdfonihgkhbpcaaGreatDoorC9
import Derived.Test.YtdfonihgkhbpcaaGreatDoorC10
import Derived.Test.YtdfonihgkhbpcaaGreatDoorC11
import Derived.Test.YtdfonihgkhbpcaaGreatDoorC12
import Derived.Test.YtdfonihgkhbpcaaGreatDoorC13
import Derived.Test.YtdfonihgkhbpcaaGreatDoorC14
import Derived.Test.YtdfonihgkhbpcaaGreatDoorC15
import Derived.Test.YtdfonihgkhbpcaaGreatDoorY
set_option maxRecDepth 100000
set_option maxHeartbeats 8000000
namespace Go.Proofs.YtdfonihgkhbpcaaGreatDoor
open Go Go.aG
theorem aQ3:∀k,k<32->bD a1 gl 15 (EY (one false (aGp k))) [] (aGv (aGw false (aGp k))) []
 |0,_=>snd aGt uZ aMI
 |1,_=>snd aGt uZ aMf
 |2,_=>snd aGt uZ aJZ
 |3,_=>snd aGt uZ aOz
 |4,_=>snd aGt uZ aKr
 |5,_=>snd aGt uZ aNb
 |6,_=>snd aGt uZ aNE
 |7,_=>snd aGt uZ aQS
 |8,_=>snd aGt uZ aLl
 |9,_=>snd aGt uZ aKT
 |10,_=>snd aGt uZ aMJ
 |11,_=>snd aGt uZ aPu
 |12,_=>snd aGt uZ aPX
 |13,_=>snd aGt uZ aMg
 |14,_=>snd aGt uZ aO2
 |15,_=>snd aGt uZ aQp
 |16,_=>snd aGt uZ aN7
 |17,_=>snd aGt uZ aLO
 |18,_=>snd aGt uZ aJ0
 |19,_=>snd aGt uZ aOA
 |20,_=>snd aGt uZ aKs
 |21,_=>snd aGt uZ aNc
 |22,_=>snd aGt uZ aNF
 |23,_=>snd aGt uZ aQT
 |24,_=>snd aGt uZ aLm
 |25,_=>snd aGt uZ aKU
 |26,_=>snd aGt uZ aMK
 |27,_=>snd aGt uZ aPv
 |28,_=>snd aGt uZ aPY
 |29,_=>snd aGt uZ aMh
 |30,_=>snd aGt uZ aO3
 |31,_=>snd aGt uZ aQq
 |k+32,h=>absurd h az6
theorem HS{n:Nat}(h:n<=32):∀k,k<n->bD a1 gl 15 (EY (one false (aGp k))) [] (aGv (aGw false (aGp k))) []:=λk a=>aQ3 k (aC2 a h)
theorem aQ4:∀n,1<=n->n<=40->aHr false n
 |0,h,_=>absurd h az6
 |1,_,_=>aGE (HS az') aLk aQX aKz aLW aMR aP5
 |2,_,_=>aGE (HS az') aNB aLR aLt aNj aQx aK1
 |3,_,_=>aGE (HS az') aNz aLN aK0 aOe aMo aLs
 |4,_,_=>aGE (HS az') aJS aMH aLU aO9 aOH aMm
 |5,_,_=>aGE (HS az') aQK aPr aMl aMP aQw aOE
 |6,_,_=>aGE (HS az') aPO aM8 aQW aLT aO8 aKY
 |7,_,_=>aGE (HS az') aQH aMb aJY aP1 aKx aMN
 |8,_,_=>aGE (HS az') aL5 aN1 aQo aJ3 aNg aOD
 |9,_,_=>aGE (HS az') aKe aMD aLj aKS aPz aNa
 |10,_,_=>aGE (HS az') aNr aLH aMG aNC aO7 aQR
 |11,_,_=>aGE (HS az') aL3 aOs aJW aM' aKX aN5
 |12,_,_=>aGE (HS az') aKF aQh aNA aPU aNf aKR
 |13,_,_=>aGE (HS az') aQa aOU aOX aOw aN' aO0
 |14,_,_=>aGE (HS az') aKE aM3 aQk aKn aPW aM9
 |15,_,_=>aGE (HS az') aMW aNY aQM aLJ aOy aQP
 |16,_,_=>aGE (HS az') aQC aKJ aOW aQj aPt aPq
 |17,_,_=>aGE (HS az') aKa aOo aL' aMa aQQ aQl
 |18,_,_=>aGE (HS az') aMV aOR aPn aM5 aOx aKP
 |19,_,_=>aGE (HS az') aOL aLC aOr aLe aJX aPS
 |20,_,_=>aGE (HS az') aQB aNs aJQ aMB aPV aPp
 |21,_,_=>aGE (HS az') aPF aQG aLc aNw aOZ aOt
 |22,_,_=>aGE (HS az') aOK aJM aKh aL8 aKo aJT
 |23,_,_=>aGE (HS az') aNP aL4 aPj aL6 aN4 aLI
 |24,_,_=>aGE (HS az') aNm aQc aNt aQe aLi aNx
 |25,_,_=>aGE (HS az') aMU aOm aMx aK' aJV aMC
 |26,_,_=>aGE (HS az') aMr aK8 aPL aQd aN3 aN0
 |27,_,_=>aGE (HS az') aLZ aMY aLB aKH aPT aKj
 |28,_,_=>aGE (HS az') aLw aOO aPh aPK aKQ aLd
 |29,_,_=>aGE (HS az') aK4 aQb aKd aJL aM7 aLG
 |30,_,_=>aGE (HS az') aKC aK7 aNq aNT aKm aLF
 |31,_,_=>aGE (HS az') aJ' aMX aPg aKc aQN aOT
 |32,_,_=>aGE (HS az') aJH aPI aL2 aNS aPo aMA
 |33,_,_=>snd aGt uZ aKg
 |34,_,_=>snd aGt uZ aJO
 |35,_,_=>snd aGt uZ aPk
 |36,_,_=>snd aGt uZ aQf
 |37,_,_=>snd aGt uZ aMz
 |38,_,_=>snd aGt uZ aQI
 |39,_,_=>snd aGt uZ aNX
 |40,_,_=>snd aGt uZ aLb
 |n+41,_,h=>absurd h az6
theorem aQ5:∀k,k<32->bD a1 gl 15 (EY (one true (aGp k))) [] (aGv (aGw true (aGp k))) []
 |0,_=>snd aGt uZ aN8
 |1,_=>snd aGt uZ aLP
 |2,_=>snd aGt uZ aJ1
 |3,_=>snd aGt uZ aOB
 |4,_=>snd aGt uZ aKt
 |5,_=>snd aGt uZ aNd
 |6,_=>snd aGt uZ aNG
 |7,_=>snd aGt uZ aQU
 |8,_=>snd aGt uZ aLn
 |9,_=>snd aGt uZ aKV
 |10,_=>snd aGt uZ aML
 |11,_=>snd aGt uZ aPw
 |12,_=>snd aGt uZ aPZ
 |13,_=>snd aGt uZ aMi
 |14,_=>snd aGt uZ aO4
 |15,_=>snd aGt uZ aQr
 |16,_=>snd aGt uZ aN9
 |17,_=>snd aGt uZ aLQ
 |18,_=>snd aGt uZ aJ2
 |19,_=>snd aGt uZ aOC
 |20,_=>snd aGt uZ aKu
 |21,_=>snd aGt uZ aNe
 |22,_=>snd aGt uZ aNH
 |23,_=>snd aGt uZ aQV
 |24,_=>snd aGt uZ aLo
 |25,_=>snd aGt uZ aKW
 |26,_=>snd aGt uZ aMM
 |27,_=>snd aGt uZ aPx
 |28,_=>snd aGt uZ aP0
 |29,_=>snd aGt uZ aMj
 |30,_=>snd aGt uZ aO5
 |31,_=>snd aGt uZ aQs
 |k+32,h=>absurd h az6
theorem Cj{n:Nat}(h:n<=32):∀k,k<n->bD a1 gl 15 (EY (one true (aGp k))) [] (aGv (aGw true (aGp k))) []:=λk a=>aQ5 k (aC2 a h)
theorem aQ6:∀n,1<=n->n<=40->aHr true n
 |0,h,_=>absurd h az6
 |1,_,_=>aGE (Cj az') aLS aO6 aJ7 aPC aKA aLX
 |2,_,_=>aGE (Cj az') aLM aN6 aNL aMS aP6 aLu
 |3,_,_=>aGE (Cj az') aLL s1_3 aKw aNk aQy aP4
 |4,_,_=>aGE (Cj az') aMc aLK aLp aPa aK2 aOF
 |5,_,_=>aGE (Cj az') aLg aJU aKq aQ1 aOf aLq
 |6,_,_=>aGE (Cj az') aM6 aKl aPs aNN aMp aQt
 |7,_,_=>aGE (Cj az') aQL aPQ aMd aOI aJ8 aKv
 |8,_,_=>aGE (Cj az') aKM aJR aOv aPD aKB aO1
 |9,_,_=>aGE (Cj az') aNv aPP aOY aLY aMT aND
 |10,_,_=>aGE (Cj az') aPl aOq aOu aP7 aLv aQn
 |11,_,_=>aGE (Cj az') aPM aJP aPR aNl aQz aKp
 |12,_,_=>aGE (Cj az') aJN aMy aKN aPb aK3 aMe
 |13,_,_=>aGE (Cj az') aOQ aKf aPm aQ2 aOg aQm
 |14,_,_=>aGE (Cj az') aM0 aNV aM4 aNO aMq aLh
 |15,_,_=>aGE (Cj az') aMZ aOn aQJ aNM aOJ aQO
 |16,_,_=>aGE (Cj az') aNU aMw aM1 aQZ aJ9 aMF
 |17,_,_=>aGE (Cj az') aLA aQF aKI aKy aPE aME
 |18,_,_=>aGE (Cj az') aQE aKG aPi aMn aO' aN2
 |19,_,_=>aGE (Cj az') aLz aOl aK9 aPB aQ0 aLf
 |20,_,_=>aGE (Cj az') aNp aPJ aOP aKZ aLV aNy
 |21,_,_=>aGE (Cj az') aPf aMu aMv aOc aNi aKO
 |22,_,_=>aGE (Cj az') aKb aOk aJK aNh aMQ aOV
 |23,_,_=>aGE (Cj az') aLy aQD aON aJ4 aOd aKk
 |24,_,_=>aGE (Cj az') aNo aK6 aJJ aNJ aOG aQi
 |25,_,_=>aGE (Cj az') aOM aL1 aMt aOb aJ6 aNZ
 |26,_,_=>aGE (Cj az') aPH aOj aNR aMO aQv aL9
 |27,_,_=>aGE (Cj az') aK5 aPe aJI aP2 aP3 aKi
 |28,_,_=>aGE (Cj az') aL0 aP' aMs aQu aPA aKL
 |29,_,_=>aGE (Cj az') aNQ aKD aPd aMk aJ5 aQg
 |30,_,_=>aGE (Cj az') aPG aLx aQA aPy aNK aLa
 |31,_,_=>aGE (Cj az') aP9 aNn aPc aOa aQY aLD
 |32,_,_=>aGE (Cj az') aP8 aOi aOh aNI aLr aNW
 |33,_,_=>snd aGt uZ aL7
 |34,_,_=>snd aGt uZ aPN
 |35,_,_=>snd aGt uZ aOS
 |36,_,_=>snd aGt uZ aKK
 |37,_,_=>snd aGt uZ aOp
 |38,_,_=>snd aGt uZ aM2
 |39,_,_=>snd aGt uZ aNu
 |40,_,_=>snd aGt uZ aLE
 |n+41,_,h=>absurd h az6
theorem lw{b:Bool}{n:Nat}(c:1<=n)(a:n<=40):aHr b n:=by
 cases b with
 |false=>exact aQ4 n c a
 |true=>exact aQ6 n c a
theorem aX(i:Int)(b:Bool):bD a1 gl 3 [.d (.int .i64 i),.d (.bool b)] [] (.d (.bool true)) []:=by
 by_cases h:i<1\/40<i
 .exact aQ7 i b h
 .have a:i=(i.toNat:Int):=by omega
  rw[a];exact lw (b:=b) (n:=i.toNat) az6 az6
theorem many_said:Rows.CheckManyCardSaid:=aor λe h=>by
 cases h with
 |cons aw ts xs lY ys h1 c=>
  cases h1 with
  |cons t x ts xs d a=>
   cases a;cases d with
   |int k n _ _=>
    cases c with
    |cons aw ts xs lY ys h1 c=>
     cases c;cases h1 with
     |cons t x ts xs d a=>
      cases a;cases d with
      |bool b=>exact qv▸aX n b
end Go.Proofs.YtdfonihgkhbpcaaGreatDoor
