/- Part of texts_said. -/
import Derived.Test.YtmgpekpnidjfoaaGreatDoorP
set_option maxRecDepth 100000
set_option maxHeartbeats 8000000
namespace Go.Proofs.YtmgpekpnidjfoaaGreatDoor
open Go Go.aJ
def Wa:aX:=by
 have h:bf 20 {take:=[17],heap:=[2,3,4,6,7],live:=[([2,3,6,33,34,35],[])]}=some ?v:=by conv=>lhs;cbv
 exact ?v
theorem Wb:a7 a1.prog 20 Wa:=bg {take:=[17],heap:=[2,3,4,6,7],live:=[([2,3,6,33,34,35],[])]}
def Wc:aX:=by
 have h:bf 29 {take:=[20,56],live:=[([1,3,14,15,16],[1]),([1,6,50,51,52],[1])],objs:=[44,71,83]}=some ?v:=by
  apply azK;apply mC Tryz.func29;repeat (first|apply mD|apply mE|apply mF|apply mG|(conv=>lhs;cbv)|rfl)
 exact ?v
theorem FE:a7 a1.prog 29 Wc:=bg {take:=[20,56],live:=[([1,3,14,15,16],[1]),([1,6,50,51,52],[1])],objs:=[44,71,83]}
def Wd:aX:=by
 have h:bf 41 {}=some ?v:=by conv=>lhs;cbv
 exact ?v
theorem Wf:a7 a1.prog 41 Wd:=bg {}
def Wg:aX:=by
 have h:bf 43 {}=some ?v:=by conv=>lhs;cbv
 exact ?v
theorem akU:a7 a1.prog 43 Wg:=bg {}
def Wh:aX:=by
 have h:bf 45 {live:=[([3,15,16,17],[])]}=some ?v:=by conv=>lhs;cbv
 exact ?v
theorem Wi:a7 a1.prog 45 Wh:=bg {live:=[([3,15,16,17],[])]}
def Wj:aX:=by
 have h:bf 55 {heap:=[1,3]}=some ?v:=by conv=>lhs;cbv
 exact ?v
theorem Wk:a7 a1.prog 55 Wj:=bg {heap:=[1,3]}
def Wl:aX:=by
 have h:bf 56 {}=some ?v:=by conv=>lhs;cbv
 exact ?v
theorem Wm:a7 a1.prog 56 Wl:=bg {}
def Wn:aX:=by
 have h:bf 58 {}=some ?v:=by conv=>lhs;cbv
 exact ?v
theorem Wo:a7 a1.prog 58 Wn:=bg {}
def Wp:aX:=by
 have h:bf 64 {}=some ?v:=by conv=>lhs;cbv
 exact ?v
theorem Wq:a7 a1.prog 64 Wp:=bg {}
def Wr:aX:=by
 have h:bf 78 {}=some ?v:=by conv=>lhs;cbv
 exact ?v
theorem KO:a7 a1.prog 78 Wr:=bg {}
def Ws:aX:=by
 have h:bf 81 {live:=[([19,20,21],[])]}=some ?v:=by conv=>lhs;cbv
 exact ?v
theorem Wt:a7 a1.prog 81 Ws:=bg {live:=[([19,20,21],[])]}
def Wu:aX:=by
 have h:bf 84 {heap:=[11],live:=[([0,5,47,48,49],[5])]}=some ?v:=by conv=>lhs;cbv
 exact ?v
theorem Wv:a7 a1.prog 84 Wu:=bg {heap:=[11],live:=[([0,5,47,48,49],[5])]}
def Ww:aX:=by
 have h:bf 85 {take:=[24],live:=[([0,5,11,12,13],[])]}=some ?v:=by conv=>lhs;cbv
 exact ?v
theorem Wx:a7 a1.prog 85 Ww:=bg {take:=[24],live:=[([0,5,11,12,13],[])]}
def Wy:aX:=by
 have h:bf 86 {take:=[74],heap:=[30,6],live:=[([6,31,32,33],[]),([6,7,31,32,33,57,58,59],[])]}=some ?v:=by
  apply azK;apply mC Tryz.func86;repeat (first|apply mD|apply mE|apply mF|apply mG|(conv=>lhs;cbv)|rfl)
 exact ?v
theorem Wz:a7 a1.prog 86 Wy:=bg {take:=[74],heap:=[30,6],live:=[([6,31,32,33],[]),([6,7,31,32,33,57,58,59],[])]}
def WA:aX:=by
 have h:bf 89 {}=some ?v:=by conv=>lhs;cbv
 exact ?v
theorem WB:a7 a1.prog 89 WA:=bg {}
def WC:aX:=by
 have h:bf 93 {}=some ?v:=by conv=>lhs;cbv
 exact ?v
theorem WD:a7 a1.prog 93 WC:=bg {}
def WE:aX:=by
 have h:bf 95 {take:=[11]}=some ?v:=by conv=>lhs;cbv
 exact ?v
theorem WG:a7 a1.prog 95 WE:=bg {take:=[11]}
def WH:aX:=by
 have h:bf 97 {take:=[15]}=some ?v:=by conv=>lhs;cbv
 exact ?v
theorem WI:a7 a1.prog 97 WH:=bg {take:=[15]}
def WJ:aX:=by
 have h:bf 99 {}=some ?v:=by conv=>lhs;cbv
 exact ?v
theorem Cm:a7 a1.prog 99 WJ:=bg {}
def WK:aX:=by
 have h:bf 109 {take:=[20,23,28],live:=[([3,8,9,10],[])]}=some ?v:=by conv=>lhs;cbv
 exact ?v
theorem WL:a7 a1.prog 109 WK:=bg {take:=[20,23,28],live:=[([3,8,9,10],[])]}
def WM:aX:=by
 have h:bf 113 {live:=[([1,2,15,16,17],[])]}=some ?v:=by conv=>lhs;cbv
 exact ?v
theorem WN:a7 a1.prog 113 WM:=bg {live:=[([1,2,15,16,17],[])]}
def WO:aX:=by
 have h:bf 114 {live:=[([0,1,12,13],[])]}=some ?v:=by conv=>lhs;cbv
 exact ?v
theorem WQ:a7 a1.prog 114 WO:=bg {live:=[([0,1,12,13],[])]}
def WR:aX:=by
 have h:bf 126 {}=some ?v:=by conv=>lhs;cbv
 exact ?v
theorem KP:a7 a1.prog 126 WR:=bg {}
def WS:aX:=by
 have h:bf 132 {}=some ?v:=by conv=>lhs;cbv
 exact ?v
theorem WT:a7 a1.prog 132 WS:=bg {}
def WU:aX:=by
 have h:bf 134 {}=some ?v:=by conv=>lhs;cbv
 exact ?v
theorem WV:a7 a1.prog 134 WU:=bg {}
def WW:aX:=by
 have h:bf 139 {live:=[([0,3],[]),([0,3,4,5],[])],uj:=[2]}=some ?v:=by conv=>lhs;cbv
 exact ?v
theorem KQ:a7 a1.prog 139 WW:=bg {live:=[([0,3],[]),([0,3,4,5],[])],uj:=[2]}
def WX:aX:=by
 have h:bf 141 {heap:=[1]}=some ?v:=by conv=>lhs;cbv
 exact ?v
theorem WY:a7 a1.prog 141 WX:=bg {heap:=[1]}
def WZ:aX:=by
 have h:bf 143 {live:=[([0,1,7,8],[])]}=some ?v:=by conv=>lhs;cbv
 exact ?v
theorem KR:a7 a1.prog 143 WZ:=bg {live:=[([0,1,7,8],[])]}
def W0:aX:=by
 have h:bf 149 {}=some ?v:=by conv=>lhs;cbv
 exact ?v
theorem akV:a7 a1.prog 149 W0:=bg {}
def W1:aX:=by
 have h:bf 165 {take:=[13],live:=[([3,7,8,9],[])]}=some ?v:=by conv=>lhs;cbv
 exact ?v
theorem W2:a7 a1.prog 165 W1:=bg {take:=[13],live:=[([3,7,8,9],[])]}
def W3:aX:=by
 have h:bf 170 {}=some ?v:=by conv=>lhs;cbv
 exact ?v
theorem akW:a7 a1.prog 170 W3:=bg {}
def W4:aX:=⟨(.seq (.ops [⟨none,.eZ 4 (.c (.d (.int .i64 0)))⟩]) (.seq (.ops [⟨none,.cS 14 (.t 1)⟩,⟨none,.mP 15 true (.t 14)⟩,⟨none,.eZ 5 (.t 15)⟩]) (.seq (.block 0 (.seq (.ops [⟨none,.cS 17 (.t 5)⟩,⟨none,.bi 18 .eql (.t 17) (.c (.d (.int .i64 0)))⟩,⟨none,.cS 19 (.t 18)⟩,⟨some (19,false),.cS 20 (.t 1)⟩,⟨some (19,false),.cS 21 (.t 0)⟩,⟨some (19,false),.bi 22 .eql (.t 20) (.t 21)⟩,⟨none,.ei 23 (.t 19) (.c (.d (.bool true))) (.t 22)⟩,⟨none,.eZ 16 (.t 23)⟩]) (.cond (.t 16) (.seq (.ops [⟨none,.eZ 4 (.c (.d (.int .i64 0)))⟩]) .ret) (.seq (.ops [⟨none,.cS 25 (.t 5)⟩,⟨none,.bi 26 .eql (.t 25) (.c (.d (.int .i64 1)))⟩,⟨none,.eZ 24 (.t 26)⟩]) (.cond (.t 24) (.seq (.ops [⟨none,.cS 27 (.t 0)⟩,⟨none,.cS 28 (.t 1)⟩,⟨none,.ma 29 (.t 28) (.c (.d (.int .i64 0)))⟩,⟨none,.dH (some 30) (.c (.d (.fn 200))) [(.t 27),(.t 29)]⟩,⟨none,.eZ 4 (.t 30)⟩]) .ret) (.seq (.ops [⟨none,.cS 32 (.t 5)⟩,⟨none,.cS 33 (.t 0)⟩,⟨none,.mP 34 true (.t 33)⟩,⟨none,.bi 35 .geq (.t 32) (.t 34)⟩,⟨none,.eZ 31 (.t 35)⟩]) (.cond (.t 31) (.seq (.ops [⟨none,.eZ 4 (.c (.d (.int .i64 (-1))))⟩]) .ret) (.seq (.ops [⟨none,.cS 37 (.t 5)⟩,⟨none,.aH 38 (.g 6) 1 false⟩,⟨none,.bi 39 .leq (.t 37) (.t 38)⟩,⟨none,.cS 40 (.t 39)⟩,⟨some (40,true),.cS 41 (.t 0)⟩,⟨some (40,true),.mP 42 true (.t 41)⟩,⟨some (40,true),.bi 43 .leq (.t 42) (.c (.d (.int .i64 64)))⟩,⟨none,.ei 44 (.t 40) (.t 43) (.c (.d (.bool false)))⟩,⟨none,.eZ 36 (.t 44)⟩]) (.cond (.t 36) (.seq (.ops [⟨none,.cS 45 (.t 0)⟩,⟨none,.cS 46 (.t 1)⟩,⟨none,.dH (some 47) (.c (.d (.fn 201))) [(.t 45),(.t 46)]⟩,⟨none,.eZ 4 (.t 47)⟩]) .ret) .skip))))))))) (.seq (.ops [⟨none,.cS 48 (.t 1)⟩,⟨none,.ma 49 (.t 48) (.c (.d (.int .i64 0)))⟩,⟨none,.eZ 6 (.t 49)⟩]) (.seq (.ops [⟨none,.cS 50 (.t 1)⟩,⟨none,.ma 51 (.t 50) (.c (.d (.int .i64 1)))⟩,⟨none,.eZ 7 (.t 51)⟩]) (.seq (.ops [⟨none,.eZ 8 (.c (.d (.int .i64 0)))⟩]) (.seq (.ops [⟨none,.cS 52 (.t 0)⟩,⟨none,.mP 53 true (.t 52)⟩,⟨none,.cS 54 (.t 5)⟩,⟨none,.bi 55 .sub (.t 53) (.t 54)⟩,⟨none,.bi 56 .add (.t 55) (.c (.d (.int .i64 1)))⟩,⟨none,.eZ 9 (.t 56)⟩]) (.seq (.ops [⟨none,.eZ 10 (.c (.d (.int .i64 0)))⟩]) (.seq (.block 1 (.loop [0,1,5,6,7,8,9,10] [] (.seq (.seq (.ops [⟨none,.cS 57 (.t 8)⟩,⟨none,.cS 58 (.t 9)⟩,⟨none,.bi 59 .lss (.t 57) (.t 58)⟩]) (.cond (.t 59) .skip (.exit 1))) (.block 2 (.seq (.seq (.ops [⟨none,.cS 60 (.t 0)⟩,⟨none,.cS 61 (.t 8)⟩,⟨none,.ma 62 (.t 60) (.t 61)⟩,⟨none,.cS 63 (.t 6)⟩,⟨none,.bi 64 .neq (.t 62) (.t 63)⟩]) (.cond (.t 64) (.seq (.ops [⟨none,.cS 65 (.t 0)⟩,⟨none,.cS 66 (.t 8)⟩,⟨none,.bi 67 .add (.t 66) (.c (.d (.int .i64 1)))⟩,⟨none,.cS 68 (.t 9)⟩,⟨none,.ss 69 (.t 65) (some (.t 67)) (some (.t 68))⟩,⟨none,.cS 70 (.t 6)⟩,⟨none,.dH (some 71) (.c (.d (.fn 200))) [(.t 69),(.t 70)]⟩,⟨none,.eZ 11 (.t 71)⟩]) (.seq (.seq (.ops [⟨none,.cS 72 (.t 11)⟩,⟨none,.bi 73 .lss (.t 72) (.c (.d (.int .i64 0)))⟩]) (.cond (.t 73) (.seq (.ops [⟨none,.eZ 4 (.c (.d (.int .i64 (-1))))⟩]) .ret) .skip)) (.ops [⟨none,.cS 74 (.t 8)⟩,⟨none,.cS 75 (.t 11)⟩,⟨none,.bi 76 .add (.t 75) (.c (.d (.int .i64 1)))⟩,⟨none,.bi 77 .add (.t 74) (.t 76)⟩,⟨none,.eZ 8 (.t 77)⟩]))) .skip)) (.seq (.seq (.ops [⟨none,.cS 78 (.t 0)⟩,⟨none,.cS 79 (.t 8)⟩,⟨none,.bi 80 .add (.t 79) (.c (.d (.int .i64 1)))⟩,⟨none,.ma 81 (.t 78) (.t 80)⟩,⟨none,.cS 82 (.t 7)⟩,⟨none,.bi 83 .eql (.t 81) (.t 82)⟩,⟨none,.cS 84 (.t 83)⟩,⟨some (84,true),.cS 85 (.t 0)⟩,⟨some (84,true),.cS 86 (.t 8)⟩,⟨some (84,true),.cS 87 (.t 8)⟩,⟨some (84,true),.cS 88 (.t 5)⟩,⟨some (84,true),.bi 89 .add (.t 87) (.t 88)⟩,⟨some (84,true),.ss 90 (.t 85) (some (.t 86)) (some (.t 89))⟩,⟨some (84,true),.cS 91 (.t 1)⟩,⟨some (84,true),.bi 92 .eql (.t 90) (.t 91)⟩,⟨none,.ei 93 (.t 84) (.t 92) (.c (.d (.bool false)))⟩]) (.cond (.t 93) (.seq (.ops [⟨none,.cS 94 (.t 8)⟩,⟨none,.eZ 4 (.t 94)⟩]) .ret) .skip)) (.seq (.ops [⟨none,.cS 95 (.t 8)⟩,⟨none,.bi 96 .add (.t 95) (.c (.d (.int .i64 1)))⟩,⟨none,.eZ 8 (.t 96)⟩]) (.seq (.ops [⟨none,.cS 97 (.t 10)⟩,⟨none,.bi 98 .add (.t 97) (.c (.d (.int .i64 1)))⟩,⟨none,.eZ 10 (.t 98)⟩]) (.seq (.ops [⟨none,.cS 99 (.t 5)⟩,⟨none,.aH 100 (.g 6) 1 false⟩,⟨none,.bi 101 .leq (.t 99) (.t 100)⟩,⟨none,.cS 102 (.t 101)⟩,⟨some (102,true),.cS 103 (.t 10)⟩,⟨some (102,true),.cS 104 (.t 8)⟩,⟨some (102,true),.dH (some 105) (.c (.d (.fn 202))) [(.t 104)]⟩,⟨some (102,true),.bi 106 .gtr (.t 103) (.t 105)⟩,⟨none,.ei 107 (.t 102) (.t 106) (.c (.d (.bool false)))⟩]) (.cond (.t 107) (.seq (.ops [⟨none,.cS 108 (.t 0)⟩,⟨none,.cS 109 (.t 8)⟩,⟨none,.ss 110 (.t 108) (some (.t 109)) none⟩,⟨none,.cS 111 (.t 1)⟩,⟨none,.dH (some 112) (.c (.d (.fn 201))) [(.t 110),(.t 111)]⟩,⟨none,.eZ 12 (.t 112)⟩]) (.seq (.seq (.ops [⟨none,.cS 113 (.t 12)⟩,⟨none,.bi 114 .geq (.t 113) (.c (.d (.int .i64 0)))⟩]) (.cond (.t 114) (.seq (.ops [⟨none,.cS 115 (.t 12)⟩,⟨none,.cS 116 (.t 8)⟩,⟨none,.bi 117 .add (.t 115) (.t 116)⟩,⟨none,.eZ 4 (.t 117)⟩]) .ret) .skip)) (.seq (.ops [⟨none,.eZ 4 (.c (.d (.int .i64 (-1))))⟩]) .ret))) (.seq (.ops [⟨none,.cS 118 (.t 5)⟩,⟨none,.aH 119 (.g 6) 1 false⟩,⟨none,.bi 120 .gtr (.t 118) (.t 119)⟩,⟨none,.cS 121 (.t 120)⟩,⟨some (121,true),.cS 122 (.t 10)⟩,⟨some (121,true),.cS 123 (.t 8)⟩,⟨some (121,true),.bi 124 .shr (.t 123) (.c (.d (.int .u64 4)))⟩,⟨some (121,true),.bi 125 .add (.c (.d (.int .i64 4))) (.t 124)⟩,⟨some (121,true),.bi 126 .geq (.t 122) (.t 125)⟩,⟨none,.ei 127 (.t 121) (.t 126) (.c (.d (.bool false)))⟩,⟨none,.cS 128 (.t 127)⟩,⟨some (128,true),.cS 129 (.t 8)⟩,⟨some (128,true),.cS 130 (.t 9)⟩,⟨some (128,true),.bi 131 .lss (.t 129) (.t 130)⟩,⟨none,.ei 132 (.t 128) (.t 131) (.c (.d (.bool false)))⟩]) (.cond (.t 132) (.seq (.ops [⟨none,.cS 133 (.t 0)⟩,⟨none,.cS 134 (.t 8)⟩,⟨none,.ss 135 (.t 133) (some (.t 134)) none⟩,⟨none,.cS 136 (.t 1)⟩,⟨none,.dH (some 137) (.c (.d (.fn 203))) [(.t 135),(.t 136)]⟩,⟨none,.eZ 13 (.t 137)⟩]) (.seq (.seq (.ops [⟨none,.cS 138 (.t 13)⟩,⟨none,.bi 139 .lss (.t 138) (.c (.d (.int .i64 0)))⟩]) (.cond (.t 139) (.seq (.ops [⟨none,.eZ 4 (.c (.d (.int .i64 (-1))))⟩]) .ret) .skip)) (.seq (.ops [⟨none,.cS 140 (.t 8)⟩,⟨none,.cS 141 (.t 13)⟩,⟨none,.bi 142 .add (.t 140) (.t 141)⟩,⟨none,.eZ 4 (.t 142)⟩]) .ret))) .skip)))))))))))) (.seq (.ops [⟨none,.eZ 4 (.c (.d (.int .i64 (-1))))⟩]) .ret)))))))))),[.t 4]⟩
theorem W5:a7 a1.prog 171 W4:=bg {live:=[([0,1,5,6,7,8,9,10],[])]}
def W6:aX:=by
 have h:bf 176 {}=some ?v:=by conv=>lhs;cbv
 exact ?v
theorem W7:a7 a1.prog 176 W6:=bg {}
def W8:aX:=by
 have h:bf 178 {own:=true}=some ?v:=by conv=>lhs;cbv
 exact ?v
theorem W9:a7 a1.prog 178 W8:=bg {own:=true}
def Xa:aX:=by
 have h:bf 187 {take:=[20],live:=[([3,4,8,9,10],[])]}=some ?v:=by conv=>lhs;cbv
 exact ?v
theorem Xb:a7 a1.prog 187 Xa:=bg {take:=[20],live:=[([3,4,8,9,10],[])]}
def Xc:aX:=by
 have h:bf 189 {}=some ?v:=by conv=>lhs;cbv
 exact ?v
theorem Xd:a7 a1.prog 189 Xc:=bg {}
def Xe:aX:=by
 have h:bf 192 {heap:=[2,3],objs:=[14,26]}=some ?v:=by conv=>lhs;cbv
 exact ?v
theorem Xf:a7 a1.prog 192 Xe:=bg {heap:=[2,3],objs:=[14,26]}
def Xg:aX:=by
 have h:bf 193 {heap:=[2,3]}=some ?v:=by conv=>lhs;cbv
 exact ?v
theorem Cn:a7 a1.prog 193 Xg:=bg {heap:=[2,3]}
def Xh:aX:=by
 have h:bf 194 {heap:=[2,3]}=some ?v:=by conv=>lhs;cbv
 exact ?v
theorem KS:a7 a1.prog 194 Xh:=bg {heap:=[2,3]}
def Xi:aX:=by
 have h:bf 197 {}=some ?v:=by conv=>lhs;cbv
 exact ?v
theorem Xj:a7 a1.prog 197 Xi:=bg {}
def Xk:aX:=by
 have h:bf 198 {}=some ?v:=by conv=>lhs;cbv
 exact ?v
theorem Xl:a7 a1.prog 198 Xk:=bg {}
def Xm:aX:=by
 have h:bf 203 {live:=[([0,1,5,6,7,8,9],[]),([0,1,5,6,7,8,10],[])]}=some ?v:=by conv=>lhs;cbv
 exact ?v
theorem akX:a7 a1.prog 203 Xm:=bg {live:=[([0,1,5,6,7,8,9],[]),([0,1,5,6,7,8,10],[])]}
def Xn:aX:=by
 have h:bf 211 {live:=[([0,1,5],[])]}=some ?v:=by conv=>lhs;cbv
 exact ?v
theorem Xo:a7 a1.prog 211 Xn:=bg {live:=[([0,1,5],[])]}
def Xp:aX:=by
 have h:bf 212 {}=some ?v:=by conv=>lhs;cbv
 exact ?v
theorem akY:a7 a1.prog 212 Xp:=bg {}
def Xq:aX:=by
 have h:bf 217 {take:=[30,54],live:=[([1,2,6,16,17,18],[2]),([1,6,39,40,41],[])]}=some ?v:=by conv=>lhs;cbv
 exact ?v
theorem Xr:a7 a1.prog 217 Xq:=bg {take:=[30,54],live:=[([1,2,6,16,17,18],[2]),([1,6,39,40,41],[])]}
def Xt:aX:=by
 have h:bf 225 {}=some ?v:=by conv=>lhs;cbv
 exact ?v
theorem Xu:a7 a1.prog 225 Xt:=bg {}
def Xv:aX:=by
 have h:bf 228 {take:=[13]}=some ?v:=by conv=>lhs;cbv
 exact ?v
theorem Xw:a7 a1.prog 228 Xv:=bg {take:=[13]}
def Xx:aX:=by
 have h:bf 234 {live:=[([0,4,5],[]),([4,6,7,8],[])]}=some ?v:=by conv=>lhs;cbv
 exact ?v
theorem akZ:a7 a1.prog 234 Xx:=bg {live:=[([0,4,5],[]),([4,6,7,8],[])]}
def Xy:aX:=by
 have h:bf 235 {live:=[([0,3,4,5],[])]}=some ?v:=by conv=>lhs;cbv
 exact ?v
theorem Xz:a7 a1.prog 235 Xy:=bg {live:=[([0,3,4,5],[])]}
def XA:aX:=by
 have h:bf 236 {}=some ?v:=by conv=>lhs;cbv
 exact ?v
theorem XB:a7 a1.prog 236 XA:=bg {}
def XC:aX:=by
 have h:bf 250 {live:=[([0,17,18,19],[])]}=some ?v:=by conv=>lhs;cbv
 exact ?v
theorem ak0:a7 a1.prog 250 XC:=bg {live:=[([0,17,18,19],[])]}
def XD:aX:=by
 have h:bf 256 {take:=[12],live:=[([3,6,7,8],[])]}=some ?v:=by conv=>lhs;cbv
 exact ?v
theorem XE:a7 a1.prog 256 XD:=bg {take:=[12],live:=[([3,6,7,8],[])]}
def XF:aX:=by
 have h:bf 276 {live:=[([0,1,7,8],[])]}=some ?v:=by conv=>lhs;cbv
 exact ?v
theorem XG:a7 a1.prog 276 XF:=bg {live:=[([0,1,7,8],[])]}
def XH:aX:=by
 have h:bf 278 {}=some ?v:=by conv=>lhs;cbv
 exact ?v
theorem ak1:a7 a1.prog 278 XH:=bg {}
def XI:aX:=by
 have h:bf 285 {}=some ?v:=by conv=>lhs;cbv
 exact ?v
theorem XJ:a7 a1.prog 285 XI:=bg {}
def XK:aX:=by
 have h:bf 288 {}=some ?v:=by conv=>lhs;cbv
 exact ?v
theorem XL:a7 a1.prog 288 XK:=bg {}
def XM:aX:=by
 have h:bf 295 {}=some ?v:=by conv=>lhs;cbv
 exact ?v
theorem ak2:a7 a1.prog 295 XM:=bg {}
def XO:aX:=by
 have h:bf 297 {live:=[([0,1,7,8],[])]}=some ?v:=by conv=>lhs;cbv
 exact ?v
theorem XP:a7 a1.prog 297 XO:=bg {live:=[([0,1,7,8],[])]}
def XQ:aX:=by
 have h:bf 298 {}=some ?v:=by conv=>lhs;cbv
 exact ?v
theorem XR:a7 a1.prog 298 XQ:=bg {}
def XS:aX:=by
 have h:bf 300 {}=some ?v:=by conv=>lhs;cbv
 exact ?v
theorem XT:a7 a1.prog 300 XS:=bg {}
def XU:aX:=by
 have h:bf 304 {}=some ?v:=by conv=>lhs;cbv
 exact ?v
theorem XV:a7 a1.prog 304 XU:=bg {}
def XW:aX:=by
 have h:bf 308 {}=some ?v:=by conv=>lhs;cbv
 exact ?v
theorem XX:a7 a1.prog 308 XW:=bg {}
end Go.Proofs.YtmgpekpnidjfoaaGreatDoor
