/- Part of ranges_said. -/
import Derived.Test.YthffhbakgmemaaaGreatDoorP
set_option maxRecDepth 100000
set_option maxHeartbeats 8000000
namespace Go.Proofs.YthffhbakgmemaaaGreatDoor
open Go Go.aH
def U4:aX:=by
 have h:bb 8 {}=some ?v:=by conv=>lhs;cbv
 exact ?v
theorem U5:a7 a1 8 U4:=bf {}
def Tr:aX:=by
 have h:bb 11 {heap:=[6,7],rK:=[25]}=some ?v:=by conv=>lhs;cbv
 exact ?v
theorem Ts:a7 a1 11 Tr:=bf {heap:=[6,7],rK:=[25]}
def YO:aX:=by
 have h:bb 26 {}=some ?v:=by conv=>lhs;cbv
 exact ?v
theorem CU:a7 a1 26 YO:=bf {}
def TF:aX:=by
 have h:bb 29 {take:=[13,17],live:=[([1,3,4],[1])],own:=true,uW:=[16]}=some ?v:=by conv=>lhs;cbv
 exact ?v
theorem Gc:a7 a1 29 TF:=bf {take:=[13,17],live:=[([1,3,4],[1])],own:=true,uW:=[16]}
def U9:aX:=by
 have h:bb 31 {live:=[([0,1,5,6],[])]}=some ?v:=by conv=>lhs;cbv
 exact ?v
theorem U':a7 a1 31 U9:=bf {live:=[([0,1,5,6],[])]}
def Vi:aX:=by
 have h:bb 42 {live:=[([0,3],[]),([0,3,4,5],[])]}=some ?v:=by conv=>lhs;cbv
 exact ?v
theorem Vj:a7 a1 42 Vi:=bf {live:=[([0,3],[]),([0,3,4,5],[])]}
def TK:aX:=by
 have h:bb 49 {}=some ?v:=by conv=>lhs;cbv
 exact ?v
theorem TL:a7 a1 49 TK:=bf {}
def YW:aX:=by
 have h:bb 51 {}=some ?v:=by conv=>lhs;cbv
 exact ?v
theorem YX:a7 a1 51 YW:=bf {}
def Vm:aX:=by
 have h:bb 56 {live:=[([0,1,7,8],[])]}=some ?v:=by conv=>lhs;cbv
 exact ?v
theorem Vn:a7 a1 56 Vm:=bf {live:=[([0,1,7,8],[])]}
def Y4:aX:=by
 have h:bb 64 {live:=[([0,3,6,7,8],[])]}=some ?v:=by conv=>lhs;cbv
 exact ?v
theorem Y5:a7 a1 64 Y4:=bf {live:=[([0,3,6,7,8],[])]}
def Vz:aX:=by
 have h:bb 77 {}=some ?v:=by conv=>lhs;cbv
 exact ?v
theorem VA:a7 a1 77 Vz:=bf {}
def Xj:aX:=by
 have h:bb 87 {}=some ?v:=by conv=>lhs;cbv
 exact ?v
theorem Xk:a7 a1 87 Xj:=bf {}
def VE:aX:=by
 have h:bb 88 {take:=[31],live:=[([0,2,3],[])]}=some ?v:=by conv=>lhs;cbv
 exact ?v
theorem Li:a7 a1 88 VE:=bf {take:=[31],live:=[([0,2,3],[])]}
def Xl:aX:=by
 have h:bb 90 {heap:=[1,3]}=some ?v:=by conv=>lhs;cbv
 exact ?v
theorem Xm:a7 a1 90 Xl:=bf {heap:=[1,3]}
def Zf:aX:=by
 have h:bb 91 {heap:=[1,3]}=some ?v:=by conv=>lhs;cbv
 exact ?v
theorem Zg:a7 a1 91 Zf:=bf {heap:=[1,3]}
def TW:aX:=by
 have h:bb 94 {}=some ?v:=by conv=>lhs;cbv
 exact ?v
theorem vL:a7 a1 94 TW:=bf {}
def Xn:aX:=by
 have h:bb 100 {take:=[75],heap:=[5],live:=[([0,1,39,40,41],[])]}=some ?v:=by
  apply aAf;apply ma Tryz.func100;repeat (first|apply mb|apply mc|apply me|apply mf|(conv=>lhs;cbv)|rfl)
 exact ?v
theorem Xo:a7 a1 100 Xn:=bf {take:=[75],heap:=[5],live:=[([0,1,39,40,41],[])]}
def aDV:aX:=by
 have h:bb 106 {take:=[21],live:=[([2,3,7,8],[3])]}=some ?v:=by conv=>lhs;cbv
 exact ?v
theorem aGf:a7 a1 106 aDV:=bf {take:=[21],live:=[([2,3,7,8],[3])]}
def T6:aX:=by
 have h:bb 110 {live:=[([0,1,4,10,11],[]),([0,10,13],[]),([0,2,4,14,15],[]),([0,14,17],[]),([0,1,2,3,4,18,19,20,21,22],[])]}=some ?v:=by
  apply aAf;apply ma Tryz.func110;repeat (first|apply mb|apply mc|apply me|apply mf|(conv=>lhs;cbv)|rfl)
 exact ?v
theorem T7:a7 a1 110 T6:=bf {live:=[([0,1,4,10,11],[]),([0,10,13],[]),([0,2,4,14,15],[]),([0,14,17],[]),([0,1,2,3,4,18,19,20,21,22],[])]}
def CS:aX:=by
 have h:bb 119 {}=some ?v:=by conv=>lhs;cbv
 exact ?v
theorem Gd:a7 a1 119 CS:=bf {}
def Zn:aX:=by
 have h:bb 126 {live:=[([0,2,3],[2,3])]}=some ?v:=by conv=>lhs;cbv
 exact ?v
theorem Lw:a7 a1 126 Zn:=bf {live:=[([0,2,3],[2,3])]}
def Zq:aX:=by
 have h:bb 137 {}=some ?v:=by conv=>lhs;cbv
 exact ?v
theorem Zr:a7 a1 137 Zq:=bf {}
def XL:aX:=by
 have h:bb 138 {live:=[([0,1,12,13],[])]}=some ?v:=by conv=>lhs;cbv
 exact ?v
theorem XM:a7 a1 138 XL:=bf {live:=[([0,1,12,13],[])]}
def XO:aX:=by
 have h:bb 139 {}=some ?v:=by conv=>lhs;cbv
 exact ?v
theorem Lo:a7 a1 139 XO:=bf {}
def Uh:aX:=by
 have h:bb 141 {}=some ?v:=by conv=>lhs;cbv
 exact ?v
theorem Ui:a7 a1 141 Uh:=bf {}
def Zs:aX:=by
 have h:bb 142 {}=some ?v:=by conv=>lhs;cbv
 exact ?v
theorem Zt:a7 a1 142 Zs:=bf {}
def Zu:aX:=by
 have h:bb 143 {take:=[17],heap:=[2,3,4,6,7],live:=[([2,3,6,33,34,35],[])]}=some ?v:=by conv=>lhs;cbv
 exact ?v
theorem Lx:a7 a1 143 Zu:=bf {take:=[17],heap:=[2,3,4,6,7],live:=[([2,3,6,33,34,35],[])]}
def XQ:aX:=by
 have h:bb 148 {}=some ?v:=by conv=>lhs;cbv
 exact ?v
theorem al':a7 a1 148 XQ:=bf {}
def Uj:aX:=by
 have h:bb 150 {}=some ?v:=by conv=>lhs;cbv
 exact ?v
theorem alY:a7 a1 150 Uj:=bf {}
def Uk:aX:=by
 have h:bb 155 {take:=[35,95],live:=[([0,3,4,20,21,22],[]),([0,3,4,7],[]),([0,3,4,7,8,56,57,58],[])]}=some ?v:=by
  apply aAf;apply ma Tryz.func155;repeat (first|apply mb|apply mc|apply me|apply mf|(conv=>lhs;cbv)|rfl)
 exact ?v
theorem Ul:a7 a1 155 Uk:=bf {take:=[35,95],live:=[([0,3,4,20,21,22],[]),([0,3,4,7],[]),([0,3,4,7,8,56,57,58],[])]}
def V6:aX:=by
 have h:bb 165 {}=some ?v:=by conv=>lhs;cbv
 exact ?v
theorem V7:a7 a1 165 V6:=bf {}
def ZH:aX:=by
 have h:bb 166 {}=some ?v:=by conv=>lhs;cbv
 exact ?v
theorem ZI:a7 a1 166 ZH:=bf {}
def V8:aX:=by
 have h:bb 167 {}=some ?v:=by conv=>lhs;cbv
 exact ?v
theorem V9:a7 a1 167 V8:=bf {}
def X1:aX:=by
 have h:bb 182 {objs:=[21,27,34,41,50,55,69]}=some ?v:=by conv=>lhs;cbv
 exact ?v
theorem X2:a7 a1 182 X1:=bf {objs:=[21,27,34,41,50,55,69]}
def ZQ:aX:=by
 have h:bb 183 {}=some ?v:=by conv=>lhs;cbv
 exact ?v
theorem ZR:a7 a1 183 ZQ:=bf {}
def ZU:aX:=by
 have h:bb 188 {live:=[([1,2,15,16,17],[])]}=some ?v:=by conv=>lhs;cbv
 exact ?v
theorem ZV:a7 a1 188 ZU:=bf {live:=[([1,2,15,16,17],[])]}
def Uv:aX:=by
 have h:bb 189 {live:=[([0,1,12,13],[])]}=some ?v:=by conv=>lhs;cbv
 exact ?v
theorem Uw:a7 a1 189 Uv:=bf {live:=[([0,1,12,13],[])]}
def Wf:aX:=by
 have h:bb 192 {live:=[([0,1,7,8],[])]}=some ?v:=by conv=>lhs;cbv
 exact ?v
theorem Wg:a7 a1 192 Wf:=bf {live:=[([0,1,7,8],[])]}
def Z0:aX:=by
 have h:bb 204 {}=some ?v:=by conv=>lhs;cbv
 exact ?v
theorem Z1:a7 a1 204 Z0:=bf {}
def Wo:aX:=by
 have h:bb 211 {take:=[20],live:=[([3,4,8,9,10],[])]}=some ?v:=by conv=>lhs;cbv
 exact ?v
theorem Wp:a7 a1 211 Wo:=bf {take:=[20],live:=[([3,4,8,9,10],[])]}
def UG:aX:=by
 have h:bb 212 {}=some ?v:=by conv=>lhs;cbv
 exact ?v
theorem al1:a7 a1 212 UG:=bf {}
def UJ:aX:=by
 have h:bb 214 {}=some ?v:=by conv=>lhs;cbv
 exact ?v
theorem UK:a7 a1 214 UJ:=bf {}
def Z3:aX:=by
 have h:bb 225 {take:=[25],live:=[([1,3,8,9,10],[1])]}=some ?v:=by conv=>lhs;cbv
 exact ?v
theorem Z4:a7 a1 225 Z3:=bf {take:=[25],live:=[([1,3,8,9,10],[1])]}
def aDW:aX:=by
 have h:bb 233 {}=some ?v:=by conv=>lhs;cbv
 exact ?v
theorem aDX:a7 a1 233 aDW:=bf {}
def aDY:aX:=by
 have h:bb 241 {heap:=[2]}=some ?v:=by conv=>lhs;cbv
 exact ?v
theorem aDZ:a7 a1 241 aDY:=bf {heap:=[2]}
def aD0:aX:=by
 have h:bb 242 {live:=[([0,1,5],[])]}=some ?v:=by conv=>lhs;cbv
 exact ?v
theorem aD1:a7 a1 242 aD0:=bf {live:=[([0,1,5],[])]}
def aD2:aX:=by
 have h:bb 245 {take:=[35],live:=[([1,2,6,19,20,21],[2])]}=some ?v:=by conv=>lhs;cbv
 exact ?v
theorem aD3:a7 a1 245 aD2:=bf {take:=[35],live:=[([1,2,6,19,20,21],[2])]}
def Z6:aX:=by
 have h:bb 249 {live:=[([1,13,14,15],[])]}=some ?v:=by conv=>lhs;cbv
 exact ?v
theorem ami:a7 a1 249 Z6:=bf {live:=[([1,13,14,15],[])]}
def Z7:aX:=by
 have h:bb 250 {live:=[([0,3,4,5],[])]}=some ?v:=by conv=>lhs;cbv
 exact ?v
theorem amj:a7 a1 250 Z7:=bf {live:=[([0,3,4,5],[])]}
def UN:aX:=by
 have h:bb 258 {}=some ?v:=by conv=>lhs;cbv
 exact ?v
theorem UO:a7 a1 258 UN:=bf {}
def Yo:aX:=by
 have h:bb 269 {}=some ?v:=by conv=>lhs;cbv
 exact ?v
theorem Yp:a7 a1 269 Yo:=bf {}
def UP:aX:=by
 have h:bb 270 {}=some ?v:=by conv=>lhs;cbv
 exact ?v
theorem Ld:a7 a1 270 UP:=bf {}
def aD4:aX:=by
 have h:bb 271 {live:=[([0,1,2,6],[]),([0,1,2,6,7],[])]}=some ?v:=by
  apply aAf;apply ma Tryz.func271;repeat (first|apply mb|apply mc|apply me|apply mf|(conv=>lhs;cbv)|rfl)
 exact ?v
theorem aGg:a7 a1 271 aD4:=bf {live:=[([0,1,2,6],[]),([0,1,2,6,7],[])]}
def Yw:aX:=by
 have h:bb 292 {}=some ?v:=by conv=>lhs;cbv
 exact ?v
theorem Yx:a7 a1 292 Yw:=bf {}
def Yy:aX:=⟨(.seq (.ops [⟨none,.e2 4 (.c (.d (.int .i64 0)))⟩]) (.seq (.ops [⟨none,.cV 14 (.t 1)⟩,⟨none,.ni 15 true (.t 14)⟩,⟨none,.e2 5 (.t 15)⟩]) (.seq (.block 0 (.seq (.ops [⟨none,.cV 17 (.t 5)⟩,⟨none,.bi 18 .eql (.t 17) (.c (.d (.int .i64 0)))⟩,⟨none,.cV 19 (.t 18)⟩,⟨some (19,false),.cV 20 (.t 1)⟩,⟨some (19,false),.cV 21 (.t 0)⟩,⟨some (19,false),.bi 22 .eql (.t 20) (.t 21)⟩,⟨none,.dU 23 (.t 19) (.c (.d (.bool true))) (.t 22)⟩,⟨none,.e2 16 (.t 23)⟩]) (.cond (.t 16) (.seq (.ops [⟨none,.e2 4 (.c (.d (.int .i64 0)))⟩]) .ret) (.seq (.ops [⟨none,.cV 25 (.t 5)⟩,⟨none,.bi 26 .eql (.t 25) (.c (.d (.int .i64 1)))⟩,⟨none,.e2 24 (.t 26)⟩]) (.cond (.t 24) (.seq (.ops [⟨none,.cV 27 (.t 0)⟩,⟨none,.cV 28 (.t 1)⟩,⟨none,.mz 29 (.t 28) (.c (.d (.int .i64 0)))⟩,⟨none,.dH (some 30) (.c (.d (.fn 327))) [(.t 27),(.t 29)]⟩,⟨none,.e2 4 (.t 30)⟩]) .ret) (.seq (.ops [⟨none,.cV 32 (.t 5)⟩,⟨none,.cV 33 (.t 0)⟩,⟨none,.ni 34 true (.t 33)⟩,⟨none,.bi 35 .geq (.t 32) (.t 34)⟩,⟨none,.e2 31 (.t 35)⟩]) (.cond (.t 31) (.seq (.ops [⟨none,.e2 4 (.c (.d (.int .i64 (-1))))⟩]) .ret) (.seq (.ops [⟨none,.cV 37 (.t 5)⟩,⟨none,.aI 38 (.g 5) 1 false⟩,⟨none,.bi 39 .leq (.t 37) (.t 38)⟩,⟨none,.cV 40 (.t 39)⟩,⟨some (40,true),.cV 41 (.t 0)⟩,⟨some (40,true),.ni 42 true (.t 41)⟩,⟨some (40,true),.bi 43 .leq (.t 42) (.c (.d (.int .i64 64)))⟩,⟨none,.dU 44 (.t 40) (.t 43) (.c (.d (.bool false)))⟩,⟨none,.e2 36 (.t 44)⟩]) (.cond (.t 36) (.seq (.ops [⟨none,.cV 45 (.t 0)⟩,⟨none,.cV 46 (.t 1)⟩,⟨none,.dH (some 47) (.c (.d (.fn 328))) [(.t 45),(.t 46)]⟩,⟨none,.e2 4 (.t 47)⟩]) .ret) .skip))))))))) (.seq (.ops [⟨none,.cV 48 (.t 1)⟩,⟨none,.mz 49 (.t 48) (.c (.d (.int .i64 0)))⟩,⟨none,.e2 6 (.t 49)⟩]) (.seq (.ops [⟨none,.cV 50 (.t 1)⟩,⟨none,.mz 51 (.t 50) (.c (.d (.int .i64 1)))⟩,⟨none,.e2 7 (.t 51)⟩]) (.seq (.ops [⟨none,.e2 8 (.c (.d (.int .i64 0)))⟩]) (.seq (.ops [⟨none,.cV 52 (.t 0)⟩,⟨none,.ni 53 true (.t 52)⟩,⟨none,.cV 54 (.t 5)⟩,⟨none,.bi 55 .sub (.t 53) (.t 54)⟩,⟨none,.bi 56 .add (.t 55) (.c (.d (.int .i64 1)))⟩,⟨none,.e2 9 (.t 56)⟩]) (.seq (.ops [⟨none,.e2 10 (.c (.d (.int .i64 0)))⟩]) (.seq (.block 1 (.loop [0,1,5,6,7,8,9,10] [] (.seq (.seq (.ops [⟨none,.cV 57 (.t 8)⟩,⟨none,.cV 58 (.t 9)⟩,⟨none,.bi 59 .lss (.t 57) (.t 58)⟩]) (.cond (.t 59) .skip (.exit 1))) (.block 2 (.seq (.seq (.ops [⟨none,.cV 60 (.t 0)⟩,⟨none,.cV 61 (.t 8)⟩,⟨none,.mz 62 (.t 60) (.t 61)⟩,⟨none,.cV 63 (.t 6)⟩,⟨none,.bi 64 .neq (.t 62) (.t 63)⟩]) (.cond (.t 64) (.seq (.ops [⟨none,.cV 65 (.t 0)⟩,⟨none,.cV 66 (.t 8)⟩,⟨none,.bi 67 .add (.t 66) (.c (.d (.int .i64 1)))⟩,⟨none,.cV 68 (.t 9)⟩,⟨none,.ss 69 (.t 65) (some (.t 67)) (some (.t 68))⟩,⟨none,.cV 70 (.t 6)⟩,⟨none,.dH (some 71) (.c (.d (.fn 327))) [(.t 69),(.t 70)]⟩,⟨none,.e2 11 (.t 71)⟩]) (.seq (.seq (.ops [⟨none,.cV 72 (.t 11)⟩,⟨none,.bi 73 .lss (.t 72) (.c (.d (.int .i64 0)))⟩]) (.cond (.t 73) (.seq (.ops [⟨none,.e2 4 (.c (.d (.int .i64 (-1))))⟩]) .ret) .skip)) (.ops [⟨none,.cV 74 (.t 8)⟩,⟨none,.cV 75 (.t 11)⟩,⟨none,.bi 76 .add (.t 75) (.c (.d (.int .i64 1)))⟩,⟨none,.bi 77 .add (.t 74) (.t 76)⟩,⟨none,.e2 8 (.t 77)⟩]))) .skip)) (.seq (.seq (.ops [⟨none,.cV 78 (.t 0)⟩,⟨none,.cV 79 (.t 8)⟩,⟨none,.bi 80 .add (.t 79) (.c (.d (.int .i64 1)))⟩,⟨none,.mz 81 (.t 78) (.t 80)⟩,⟨none,.cV 82 (.t 7)⟩,⟨none,.bi 83 .eql (.t 81) (.t 82)⟩,⟨none,.cV 84 (.t 83)⟩,⟨some (84,true),.cV 85 (.t 0)⟩,⟨some (84,true),.cV 86 (.t 8)⟩,⟨some (84,true),.cV 87 (.t 8)⟩,⟨some (84,true),.cV 88 (.t 5)⟩,⟨some (84,true),.bi 89 .add (.t 87) (.t 88)⟩,⟨some (84,true),.ss 90 (.t 85) (some (.t 86)) (some (.t 89))⟩,⟨some (84,true),.cV 91 (.t 1)⟩,⟨some (84,true),.bi 92 .eql (.t 90) (.t 91)⟩,⟨none,.dU 93 (.t 84) (.t 92) (.c (.d (.bool false)))⟩]) (.cond (.t 93) (.seq (.ops [⟨none,.cV 94 (.t 8)⟩,⟨none,.e2 4 (.t 94)⟩]) .ret) .skip)) (.seq (.ops [⟨none,.cV 95 (.t 8)⟩,⟨none,.bi 96 .add (.t 95) (.c (.d (.int .i64 1)))⟩,⟨none,.e2 8 (.t 96)⟩]) (.seq (.ops [⟨none,.cV 97 (.t 10)⟩,⟨none,.bi 98 .add (.t 97) (.c (.d (.int .i64 1)))⟩,⟨none,.e2 10 (.t 98)⟩]) (.seq (.ops [⟨none,.cV 99 (.t 5)⟩,⟨none,.aI 100 (.g 5) 1 false⟩,⟨none,.bi 101 .leq (.t 99) (.t 100)⟩,⟨none,.cV 102 (.t 101)⟩,⟨some (102,true),.cV 103 (.t 10)⟩,⟨some (102,true),.cV 104 (.t 8)⟩,⟨some (102,true),.dH (some 105) (.c (.d (.fn 329))) [(.t 104)]⟩,⟨some (102,true),.bi 106 .gtr (.t 103) (.t 105)⟩,⟨none,.dU 107 (.t 102) (.t 106) (.c (.d (.bool false)))⟩]) (.cond (.t 107) (.seq (.ops [⟨none,.cV 108 (.t 0)⟩,⟨none,.cV 109 (.t 8)⟩,⟨none,.ss 110 (.t 108) (some (.t 109)) none⟩,⟨none,.cV 111 (.t 1)⟩,⟨none,.dH (some 112) (.c (.d (.fn 328))) [(.t 110),(.t 111)]⟩,⟨none,.e2 12 (.t 112)⟩]) (.seq (.seq (.ops [⟨none,.cV 113 (.t 12)⟩,⟨none,.bi 114 .geq (.t 113) (.c (.d (.int .i64 0)))⟩]) (.cond (.t 114) (.seq (.ops [⟨none,.cV 115 (.t 12)⟩,⟨none,.cV 116 (.t 8)⟩,⟨none,.bi 117 .add (.t 115) (.t 116)⟩,⟨none,.e2 4 (.t 117)⟩]) .ret) .skip)) (.seq (.ops [⟨none,.e2 4 (.c (.d (.int .i64 (-1))))⟩]) .ret))) (.seq (.ops [⟨none,.cV 118 (.t 5)⟩,⟨none,.aI 119 (.g 5) 1 false⟩,⟨none,.bi 120 .gtr (.t 118) (.t 119)⟩,⟨none,.cV 121 (.t 120)⟩,⟨some (121,true),.cV 122 (.t 10)⟩,⟨some (121,true),.cV 123 (.t 8)⟩,⟨some (121,true),.bi 124 .shr (.t 123) (.c (.d (.int .u64 4)))⟩,⟨some (121,true),.bi 125 .add (.c (.d (.int .i64 4))) (.t 124)⟩,⟨some (121,true),.bi 126 .geq (.t 122) (.t 125)⟩,⟨none,.dU 127 (.t 121) (.t 126) (.c (.d (.bool false)))⟩,⟨none,.cV 128 (.t 127)⟩,⟨some (128,true),.cV 129 (.t 8)⟩,⟨some (128,true),.cV 130 (.t 9)⟩,⟨some (128,true),.bi 131 .lss (.t 129) (.t 130)⟩,⟨none,.dU 132 (.t 128) (.t 131) (.c (.d (.bool false)))⟩]) (.cond (.t 132) (.seq (.ops [⟨none,.cV 133 (.t 0)⟩,⟨none,.cV 134 (.t 8)⟩,⟨none,.ss 135 (.t 133) (some (.t 134)) none⟩,⟨none,.cV 136 (.t 1)⟩,⟨none,.dH (some 137) (.c (.d (.fn 330))) [(.t 135),(.t 136)]⟩,⟨none,.e2 13 (.t 137)⟩]) (.seq (.seq (.ops [⟨none,.cV 138 (.t 13)⟩,⟨none,.bi 139 .lss (.t 138) (.c (.d (.int .i64 0)))⟩]) (.cond (.t 139) (.seq (.ops [⟨none,.e2 4 (.c (.d (.int .i64 (-1))))⟩]) .ret) .skip)) (.seq (.ops [⟨none,.cV 140 (.t 8)⟩,⟨none,.cV 141 (.t 13)⟩,⟨none,.bi 142 .add (.t 140) (.t 141)⟩,⟨none,.e2 4 (.t 142)⟩]) .ret))) .skip)))))))))))) (.seq (.ops [⟨none,.e2 4 (.c (.d (.int .i64 (-1))))⟩]) .ret)))))))))),[.t 4]⟩
theorem Yz:a7 a1 304 Yy:=bf {live:=[([0,1,5,6,7,8,9,10],[])]}
def YE:aX:=⟨(.seq (.ops [⟨none,.fV 1 (.t 0) 7⟩,⟨none,.e2 2 (.c (.d (.bool false)))⟩]) (.seq (.seq (.ops [⟨none,.gK 5 (.t 1) 0⟩,⟨none,.hX 6 (.t 5) 1 0 1 false⟩]) (.block 0 (.seq (.ops [⟨none,.bi 8 .eql (.t 6) (.c (.d (.int .i64 1)))⟩,⟨none,.e2 7 (.t 8)⟩]) (.cond (.t 7) (.seq (.any [⟨none,.gK 9 (.t 1) 5⟩,⟨none,.hX 10 (.t 9) 1 5 1 false⟩,⟨none,.bi 11 .eql (.t 10) (.c (.d (.str [])))⟩,⟨none,.cV 12 (.t 11)⟩,⟨some (12,true),.gK 13 (.t 1) 6⟩,⟨some (12,true),.hX 14 (.t 13) 1 6 1 false⟩,⟨some (12,true),.ni 15 false (.t 14)⟩,⟨some (12,true),.bi 16 .eql (.t 15) (.c (.d (.int .i64 0)))⟩,⟨none,.dU 17 (.t 12) (.t 16) (.c (.d (.bool false)))⟩,⟨none,.cV 18 (.t 17)⟩,⟨some (18,true),.gK 19 (.t 1) 2⟩,⟨some (18,true),.hX 20 (.t 19) 1 2 3 true⟩,⟨some (18,true),.dH (some 21) (.c (.d (.fn 210))) []⟩,⟨some (18,true),.eq 22 false true [1,1,2] (.t 20) (.t 21)⟩,⟨none,.dU 23 (.t 18) (.t 22) (.c (.d (.bool false)))⟩,⟨none,.e2 2 (.t 23)⟩] [[],[],[],[],[],[],[],[],[],[],[],[],[],[],[],[]]) .ret) (.seq (.ops [⟨none,.bi 25 .eql (.t 6) (.c (.d (.int .i64 2)))⟩,⟨none,.e2 24 (.t 25)⟩]) (.cond (.t 24) (.seq (.ops [⟨none,.gK 26 (.t 1) 1⟩,⟨none,.hX 27 (.t 26) 1 1 1 false⟩,⟨none,.bi 28 .eql (.t 27) (.c (.d (.str [])))⟩,⟨none,.cV 29 (.t 28)⟩,⟨some (29,true),.gK 30 (.t 1) 5⟩,⟨some (29,true),.hX 31 (.t 30) 1 5 1 false⟩,⟨some (29,true),.bi 32 .eql (.t 31) (.c (.d (.str [])))⟩,⟨none,.dU 33 (.t 29) (.t 32) (.c (.d (.bool false)))⟩,⟨none,.cV 34 (.t 33)⟩,⟨some (34,true),.gK 35 (.t 1) 6⟩,⟨some (34,true),.hX 36 (.t 35) 1 6 1 false⟩,⟨some (34,true),.ni 37 false (.t 36)⟩,⟨some (34,true),.bi 38 .eql (.t 37) (.c (.d (.int .i64 0)))⟩,⟨none,.dU 39 (.t 34) (.t 38) (.c (.d (.bool false)))⟩,⟨none,.cV 40 (.t 39)⟩,⟨some (40,true),.gK 41 (.t 1) 2⟩,⟨some (40,true),.hX 42 (.t 41) 1 2 3 true⟩,⟨some (40,true),.dH (some 43) (.c (.d (.fn 183))) [(.t 42)]⟩,⟨none,.dU 44 (.t 40) (.t 43) (.c (.d (.bool false)))⟩,⟨none,.e2 2 (.t 44)⟩]) .ret) .skip)))))) (.seq (.ops [⟨none,.hX 46 (.t 1) 1 0 7 true⟩,⟨none,.dH (some 47) (.c (.d (.fn 311))) [(.t 46)]⟩,⟨none,.cV 45 (.t 47)⟩,⟨none,.ex 48 (.t 45) 0⟩,⟨none,.ex 49 (.t 45) 1⟩,⟨none,.kN 3 [(.d (.str [])),(.own 1 []),(.d (.int .i64 0))]⟩,⟨none,.ls (.t 3) 3 0 (.t 48) 3⟩,⟨none,.e2 4 (.t 49)⟩]) (.seq (.any [⟨none,.cV 50 (.t 4)⟩,⟨none,.cV 51 (.t 50)⟩,⟨some (51,true),.gK 52 (.t 1) 2⟩,⟨some (51,true),.hX 53 (.t 52) 1 2 3 true⟩,⟨some (51,true),.dH (some 54) (.c (.d (.fn 210))) []⟩,⟨some (51,true),.eq 55 false true [1,1,2] (.t 53) (.t 54)⟩,⟨none,.dU 56 (.t 51) (.t 55) (.c (.d (.bool false)))⟩,⟨none,.cV 57 (.t 56)⟩,⟨some (57,true),.gK 58 (.t 1) 0⟩,⟨some (57,true),.hX 59 (.t 58) 1 0 1 false⟩,⟨some (57,true),.bi 60 .eql (.t 59) (.c (.d (.int .i64 5)))⟩,⟨some (57,true),.cV 61 (.t 60)⟩,⟨some (61,true),.gK 62 (.t 1) 5⟩,⟨some (61,true),.hX 63 (.t 62) 1 5 1 false⟩,⟨some (61,true),.bi 64 .eql (.t 63) (.c (.d (.str [])))⟩,⟨some (57,true),.dU 65 (.t 61) (.t 64) (.c (.d (.bool false)))⟩,⟨some (57,true),.cV 66 (.t 65)⟩,⟨some (66,false),.gK 67 (.t 1) 0⟩,⟨some (66,false),.hX 68 (.t 67) 1 0 1 false⟩,⟨some (66,false),.bi 69 .neq (.t 68) (.c (.d (.int .i64 5)))⟩,⟨some (66,false),.cV 70 (.t 69)⟩,⟨some (70,true),.gK 71 (.t 1) 1⟩,⟨some (70,true),.hX 72 (.t 71) 1 1 1 false⟩,⟨some (70,true),.bi 73 .eql (.t 72) (.c (.d (.str [])))⟩,⟨some (66,false),.dU 74 (.t 70) (.t 73) (.c (.d (.bool false)))⟩,⟨some (57,true),.dU 75 (.t 66) (.c (.d (.bool true))) (.t 74)⟩,⟨none,.dU 76 (.t 57) (.t 75) (.c (.d (.bool false)))⟩,⟨none,.e2 2 (.t 76)⟩] [[],[],[],[],[],[],[],[],[],[],[],[],[],[],[],[],[],[],[],[],[],[],[],[],[],[],[],[]]) .ret)))),[.t 2]⟩
theorem YF:a7 a1 310 YE:=bf {}
def aD5:aX:=by
 have h:bb 311 {heap:=[4]}=some ?v:=by
  apply aAf;apply ma Tryz.func311;repeat (first|apply mb|apply mc|apply me|apply mf|(conv=>lhs;cbv)|rfl)
 exact ?v
theorem aD6:a7 a1 311 aD5:=bf {heap:=[4]}
def aD7:aX:=by
 have h:bb 316 {}=some ?v:=by conv=>lhs;cbv
 exact ?v
theorem aD8:a7 a1 316 aD7:=bf {}
def aD9:aX:=by
 have h:bb 317 {}=some ?v:=by conv=>lhs;cbv
 exact ?v
theorem aD':a7 a1 317 aD9:=bf {}
def aEa:aX:=by
 have h:bb 321 {}=some ?v:=by conv=>lhs;cbv
 exact ?v
theorem aEb:a7 a1 321 aEa:=bf {}
def aEc:aX:=by
 have h:bb 322 {}=some ?v:=by conv=>lhs;cbv
 exact ?v
theorem aEd:a7 a1 322 aEc:=bf {}
def aEe:aX:=by
 have h:bb 334 {live:=[([0,1,7,8],[])]}=some ?v:=by conv=>lhs;cbv
 exact ?v
theorem aEf:a7 a1 334 aEe:=bf {live:=[([0,1,7,8],[])]}
def aEg:aX:=by
 have h:bb 337 {}=some ?v:=by conv=>lhs;cbv
 exact ?v
theorem aEh:a7 a1 337 aEg:=bf {}
def aEi:aX:=by
 have h:bb 345 {}=some ?v:=by conv=>lhs;cbv
 exact ?v
theorem aEj:a7 a1 345 aEi:=bf {}
def aEk:aX:=by
 have h:bb 346 {}=some ?v:=by conv=>lhs;cbv
 exact ?v
theorem aEl:a7 a1 346 aEk:=bf {}
end Go.Proofs.YthffhbakgmemaaaGreatDoor
