/- Part of graphs_said. -/
import Derived.Test.YtmgpekpnidjfoaaGreatDoorP
set_option maxRecDepth 100000
set_option maxHeartbeats 8000000
namespace Go.Proofs.YtmgpekpnidjfoaaGreatDoor
open Go Go.aH
def Ty:aX:=by
 have h:bb 17 {take:=[13],heap:=[1],live:=[([1,3,9,10],[])],uV:=[2],rK:=[18],uW:=[16]}=some ?v:=by conv=>lhs;cbv
 exact ?v
theorem Tz:a7 a1 17 Ty:=bf {take:=[13],heap:=[1],live:=[([1,3,9,10],[])],uV:=[2],rK:=[18],uW:=[16]}
def WW:aX:=by
 have h:bb 19 {take:=[19],live:=[([3,9,10,11],[])]}=some ?v:=by conv=>lhs;cbv
 exact ?v
theorem WX:a7 a1 19 WW:=bf {take:=[19],live:=[([3,9,10,11],[])]}
def WY:aX:=by
 have h:bb 24 {take:=[51,68,92],heap:=[36],live:=[([0,2,37,38,39],[]),([0,2,105,106,107],[])],objs:=[105,55],rK:=[99],uW:=[56,85]}=some ?v:=by
  apply aAf;apply ma Tryz.func24;repeat (first|apply mb|apply mc|apply me|apply mf|(conv=>lhs;cbv)|rfl)
 exact ?v
theorem WZ:a7 a1 24 WY:=bf {take:=[51,68,92],heap:=[36],live:=[([0,2,37,38,39],[]),([0,2,105,106,107],[])],objs:=[105,55],rK:=[99],uW:=[56,85]}
def YO:aX:=by
 have h:bb 26 {}=some ?v:=by conv=>lhs;cbv
 exact ?v
theorem CU:a7 a1 26 YO:=bf {}
def U8:aX:=by
 have h:bb 27 {}=some ?v:=by
  apply aAf;apply ma Tryz.func27;repeat (first|apply mb|apply mc|apply me|apply mf|(conv=>lhs;cbv)|rfl)
 exact ?v
theorem Ge:a7 a1 27 U8:=bf {}
def TK:aX:=by
 have h:bb 49 {live:=[([0,4,5,12,13,14],[])]}=some ?v:=by conv=>lhs;cbv
 exact ?v
theorem TL:a7 a1 49 TK:=bf {live:=[([0,4,5,12,13,14],[])]}
def TM:aX:=by
 have h:bb 50 {take:=[21],live:=[([0,4,15,16,17],[]),([0,49,50,51],[]),([0,4,8,74,75],[])]}=some ?v:=by conv=>lhs;cbv
 exact ?v
theorem TN:a7 a1 50 TM:=bf {take:=[21],live:=[([0,4,15,16,17],[]),([0,49,50,51],[]),([0,4,8,74,75],[])]}
def YW:aX:=by
 have h:bb 51 {take:=[50],live:=[([0,18,19,20],[]),([0,5,6,7,18,19,20,37,38,39],[])]}=some ?v:=by conv=>lhs;cbv
 exact ?v
theorem YX:a7 a1 51 YW:=bf {take:=[50],live:=[([0,18,19,20],[]),([0,5,6,7,18,19,20,37,38,39],[])]}
def YZ:aX:=by
 have h:bb 55 {heap:=[1,3]}=some ?v:=by conv=>lhs;cbv
 exact ?v
theorem Y0:a7 a1 55 YZ:=bf {heap:=[1,3]}
def Lt:aX:=by
 have h:bb 61 {}=some ?v:=by conv=>lhs;cbv
 exact ?v
theorem Y1:a7 a1 61 Lt:=bf {}
def Y4:aX:=by
 have h:bb 64 {}=some ?v:=by conv=>lhs;cbv
 exact ?v
theorem Y5:a7 a1 64 Y4:=bf {}
def Y7:aX:=by
 have h:bb 68 {}=some ?v:=by conv=>lhs;cbv
 exact ?v
theorem Y8:a7 a1 68 Y7:=bf {}
def Za:aX:=by
 have h:bb 72 {heap:=[3,4,5]}=some ?v:=by conv=>lhs;cbv
 exact ?v
theorem Zb:a7 a1 72 Za:=bf {heap:=[3,4,5]}
def Ze:aX:=by
 have h:bb 78 {}=some ?v:=by conv=>lhs;cbv
 exact ?v
theorem Lv:a7 a1 78 Ze:=bf {}
def Xb:aX:=by
 have h:bb 81 {live:=[([19,20,21],[])]}=some ?v:=by conv=>lhs;cbv
 exact ?v
theorem Xc:a7 a1 81 Xb:=bf {live:=[([19,20,21],[])]}
def VC:aX:=by
 have h:bb 85 {take:=[24],live:=[([0,5,11,12,13],[])]}=some ?v:=by conv=>lhs;cbv
 exact ?v
theorem VD:a7 a1 85 VC:=bf {take:=[24],live:=[([0,5,11,12,13],[])]}
def Xj:aX:=by
 have h:bb 87 {take:=[33,22],live:=[([1,2,7,8],[])],DX:=[23]}=some ?v:=by conv=>lhs;cbv
 exact ?v
theorem Xk:a7 a1 87 Xj:=bf {take:=[33,22],live:=[([1,2,7,8],[])],DX:=[23]}
def Xl:aX:=by
 have h:bb 90 {live:=[([0,1],[])]}=some ?v:=by conv=>lhs;cbv
 exact ?v
theorem Xm:a7 a1 90 Xl:=bf {live:=[([0,1],[])]}
def T3:aX:=by
 have h:bb 99 {}=some ?v:=by conv=>lhs;cbv
 exact ?v
theorem CR:a7 a1 99 T3:=bf {}
def Xu:aX:=by
 have h:bb 109 {take:=[20,23,28],live:=[([3,8,9,10],[])]}=some ?v:=by conv=>lhs;cbv
 exact ?v
theorem Xv:a7 a1 109 Xu:=bf {take:=[20,23,28],live:=[([3,8,9,10],[])]}
def Xw:aX:=by
 have h:bb 113 {live:=[([1,2,15,16,17],[])]}=some ?v:=by conv=>lhs;cbv
 exact ?v
theorem Xx:a7 a1 113 Xw:=bf {live:=[([1,2,15,16,17],[])]}
def Xy:aX:=by
 have h:bb 116 {live:=[([0,1,12,13],[])]}=some ?v:=by conv=>lhs;cbv
 exact ?v
theorem Xz:a7 a1 116 Xy:=bf {live:=[([0,1,12,13],[])]}
def T8:aX:=by
 have h:bb 117 {live:=[([0,1,2,3,8],[]),([0,1,2,3,8,9],[])]}=some ?v:=by
  apply aAf;apply ma Tryz.func117;repeat (first|apply mb|apply mc|apply me|apply mf|(conv=>lhs;cbv)|rfl)
 exact ?v
theorem Lb:a7 a1 117 T8:=bf {live:=[([0,1,2,3,8],[]),([0,1,2,3,8,9],[])]}
def CS:aX:=by
 have h:bb 119 {live:=[([0,2],[]),([0,1,2,3],[])]}=some ?v:=by conv=>lhs;cbv
 exact ?v
theorem Gd:a7 a1 119 CS:=bf {live:=[([0,2],[]),([0,1,2,3],[])]}
def Zn:aX:=by
 have h:bb 126 {}=some ?v:=by conv=>lhs;cbv
 exact ?v
theorem Lw:a7 a1 126 Zn:=bf {}
def Zo:aX:=by
 have h:bb 131 {}=some ?v:=by conv=>lhs;cbv
 exact ?v
theorem Zp:a7 a1 131 Zo:=bf {}
def Zq:aX:=by
 have h:bb 137 {}=some ?v:=by conv=>lhs;cbv
 exact ?v
theorem Zr:a7 a1 137 Zq:=bf {}
def XO:aX:=by
 have h:bb 139 {live:=[([0,3],[]),([0,3,4,5],[])],uV:=[2]}=some ?v:=by conv=>lhs;cbv
 exact ?v
theorem Lo:a7 a1 139 XO:=bf {live:=[([0,3],[]),([0,3,4,5],[])],uV:=[2]}
def Uh:aX:=by
 have h:bb 141 {heap:=[1]}=some ?v:=by conv=>lhs;cbv
 exact ?v
theorem Ui:a7 a1 141 Uh:=bf {heap:=[1]}
def Zv:aX:=by
 have h:bb 144 {}=some ?v:=by conv=>lhs;cbv
 exact ?v
theorem Zw:a7 a1 144 Zv:=bf {}
def Zx:aX:=by
 have h:bb 145 {live:=[([3,7,8,9],[])]}=some ?v:=by conv=>lhs;cbv
 exact ?v
theorem Zy:a7 a1 145 Zx:=bf {live:=[([3,7,8,9],[])]}
def Zz:aX:=by
 have h:bb 146 {take:=[76],live:=[([1,2,3,10,59,60,61],[3])]}=some ?v:=by
  apply aAf;apply ma Tryz.func146;repeat (first|apply mb|apply mc|apply me|apply mf|(conv=>lhs;cbv)|rfl)
 exact ?v
theorem ZA:a7 a1 146 Zz:=bf {take:=[76],live:=[([1,2,3,10,59,60,61],[3])]}
def VY:aX:=by
 have h:bb 147 {live:=[([0,1,2],[])]}=some ?v:=by conv=>lhs;cbv
 exact ?v
theorem VZ:a7 a1 147 VY:=bf {live:=[([0,1,2],[])]}
def ZB:aX:=by
 have h:bb 151 {}=some ?v:=by conv=>lhs;cbv
 exact ?v
theorem amf:a7 a1 151 ZB:=bf {}
def ZE:aX:=by
 have h:bb 156 {heap:=[1]}=some ?v:=by conv=>lhs;cbv
 exact ?v
theorem Ly:a7 a1 156 ZE:=bf {heap:=[1]}
def XT:aX:=by
 have h:bb 160 {live:=[([0,1,7,8],[])]}=some ?v:=by conv=>lhs;cbv
 exact ?v
theorem Lq:a7 a1 160 XT:=bf {live:=[([0,1,7,8],[])]}
def XU:aX:=by
 have h:bb 162 {}=some ?v:=by conv=>lhs;cbv
 exact ?v
theorem XV:a7 a1 162 XU:=bf {}
def ZJ:aX:=by
 have h:bb 169 {live:=[([0,2,4,10,11],[])]}=some ?v:=by conv=>lhs;cbv
 exact ?v
theorem ZK:a7 a1 169 ZJ:=bf {live:=[([0,2,4,10,11],[])]}
def ZL:aX:=⟨(.seq (.ops [⟨none,.e2 4 (.c (.d (.int .i64 0)))⟩]) (.seq (.ops [⟨none,.cV 14 (.t 1)⟩,⟨none,.ni 15 true (.t 14)⟩,⟨none,.e2 5 (.t 15)⟩]) (.seq (.block 0 (.seq (.ops [⟨none,.cV 17 (.t 5)⟩,⟨none,.bi 18 .eql (.t 17) (.c (.d (.int .i64 0)))⟩,⟨none,.cV 19 (.t 18)⟩,⟨some (19,false),.cV 20 (.t 1)⟩,⟨some (19,false),.cV 21 (.t 0)⟩,⟨some (19,false),.bi 22 .eql (.t 20) (.t 21)⟩,⟨none,.dU 23 (.t 19) (.c (.d (.bool true))) (.t 22)⟩,⟨none,.e2 16 (.t 23)⟩]) (.cond (.t 16) (.seq (.ops [⟨none,.e2 4 (.c (.d (.int .i64 0)))⟩]) .ret) (.seq (.ops [⟨none,.cV 25 (.t 5)⟩,⟨none,.bi 26 .eql (.t 25) (.c (.d (.int .i64 1)))⟩,⟨none,.e2 24 (.t 26)⟩]) (.cond (.t 24) (.seq (.ops [⟨none,.cV 27 (.t 0)⟩,⟨none,.cV 28 (.t 1)⟩,⟨none,.mz 29 (.t 28) (.c (.d (.int .i64 0)))⟩,⟨none,.dH (some 30) (.c (.d (.fn 200))) [(.t 27),(.t 29)]⟩,⟨none,.e2 4 (.t 30)⟩]) .ret) (.seq (.ops [⟨none,.cV 32 (.t 5)⟩,⟨none,.cV 33 (.t 0)⟩,⟨none,.ni 34 true (.t 33)⟩,⟨none,.bi 35 .geq (.t 32) (.t 34)⟩,⟨none,.e2 31 (.t 35)⟩]) (.cond (.t 31) (.seq (.ops [⟨none,.e2 4 (.c (.d (.int .i64 (-1))))⟩]) .ret) (.seq (.ops [⟨none,.cV 37 (.t 5)⟩,⟨none,.aI 38 (.g 6) 1 false⟩,⟨none,.bi 39 .leq (.t 37) (.t 38)⟩,⟨none,.cV 40 (.t 39)⟩,⟨some (40,true),.cV 41 (.t 0)⟩,⟨some (40,true),.ni 42 true (.t 41)⟩,⟨some (40,true),.bi 43 .leq (.t 42) (.c (.d (.int .i64 64)))⟩,⟨none,.dU 44 (.t 40) (.t 43) (.c (.d (.bool false)))⟩,⟨none,.e2 36 (.t 44)⟩]) (.cond (.t 36) (.seq (.ops [⟨none,.cV 45 (.t 0)⟩,⟨none,.cV 46 (.t 1)⟩,⟨none,.dH (some 47) (.c (.d (.fn 201))) [(.t 45),(.t 46)]⟩,⟨none,.e2 4 (.t 47)⟩]) .ret) .skip))))))))) (.seq (.ops [⟨none,.cV 48 (.t 1)⟩,⟨none,.mz 49 (.t 48) (.c (.d (.int .i64 0)))⟩,⟨none,.e2 6 (.t 49)⟩]) (.seq (.ops [⟨none,.cV 50 (.t 1)⟩,⟨none,.mz 51 (.t 50) (.c (.d (.int .i64 1)))⟩,⟨none,.e2 7 (.t 51)⟩]) (.seq (.ops [⟨none,.e2 8 (.c (.d (.int .i64 0)))⟩]) (.seq (.ops [⟨none,.cV 52 (.t 0)⟩,⟨none,.ni 53 true (.t 52)⟩,⟨none,.cV 54 (.t 5)⟩,⟨none,.bi 55 .sub (.t 53) (.t 54)⟩,⟨none,.bi 56 .add (.t 55) (.c (.d (.int .i64 1)))⟩,⟨none,.e2 9 (.t 56)⟩]) (.seq (.ops [⟨none,.e2 10 (.c (.d (.int .i64 0)))⟩]) (.seq (.block 1 (.loop [0,1,5,6,7,8,9,10] [] (.seq (.seq (.ops [⟨none,.cV 57 (.t 8)⟩,⟨none,.cV 58 (.t 9)⟩,⟨none,.bi 59 .lss (.t 57) (.t 58)⟩]) (.cond (.t 59) .skip (.exit 1))) (.block 2 (.seq (.seq (.ops [⟨none,.cV 60 (.t 0)⟩,⟨none,.cV 61 (.t 8)⟩,⟨none,.mz 62 (.t 60) (.t 61)⟩,⟨none,.cV 63 (.t 6)⟩,⟨none,.bi 64 .neq (.t 62) (.t 63)⟩]) (.cond (.t 64) (.seq (.ops [⟨none,.cV 65 (.t 0)⟩,⟨none,.cV 66 (.t 8)⟩,⟨none,.bi 67 .add (.t 66) (.c (.d (.int .i64 1)))⟩,⟨none,.cV 68 (.t 9)⟩,⟨none,.ss 69 (.t 65) (some (.t 67)) (some (.t 68))⟩,⟨none,.cV 70 (.t 6)⟩,⟨none,.dH (some 71) (.c (.d (.fn 200))) [(.t 69),(.t 70)]⟩,⟨none,.e2 11 (.t 71)⟩]) (.seq (.seq (.ops [⟨none,.cV 72 (.t 11)⟩,⟨none,.bi 73 .lss (.t 72) (.c (.d (.int .i64 0)))⟩]) (.cond (.t 73) (.seq (.ops [⟨none,.e2 4 (.c (.d (.int .i64 (-1))))⟩]) .ret) .skip)) (.ops [⟨none,.cV 74 (.t 8)⟩,⟨none,.cV 75 (.t 11)⟩,⟨none,.bi 76 .add (.t 75) (.c (.d (.int .i64 1)))⟩,⟨none,.bi 77 .add (.t 74) (.t 76)⟩,⟨none,.e2 8 (.t 77)⟩]))) .skip)) (.seq (.seq (.ops [⟨none,.cV 78 (.t 0)⟩,⟨none,.cV 79 (.t 8)⟩,⟨none,.bi 80 .add (.t 79) (.c (.d (.int .i64 1)))⟩,⟨none,.mz 81 (.t 78) (.t 80)⟩,⟨none,.cV 82 (.t 7)⟩,⟨none,.bi 83 .eql (.t 81) (.t 82)⟩,⟨none,.cV 84 (.t 83)⟩,⟨some (84,true),.cV 85 (.t 0)⟩,⟨some (84,true),.cV 86 (.t 8)⟩,⟨some (84,true),.cV 87 (.t 8)⟩,⟨some (84,true),.cV 88 (.t 5)⟩,⟨some (84,true),.bi 89 .add (.t 87) (.t 88)⟩,⟨some (84,true),.ss 90 (.t 85) (some (.t 86)) (some (.t 89))⟩,⟨some (84,true),.cV 91 (.t 1)⟩,⟨some (84,true),.bi 92 .eql (.t 90) (.t 91)⟩,⟨none,.dU 93 (.t 84) (.t 92) (.c (.d (.bool false)))⟩]) (.cond (.t 93) (.seq (.ops [⟨none,.cV 94 (.t 8)⟩,⟨none,.e2 4 (.t 94)⟩]) .ret) .skip)) (.seq (.ops [⟨none,.cV 95 (.t 8)⟩,⟨none,.bi 96 .add (.t 95) (.c (.d (.int .i64 1)))⟩,⟨none,.e2 8 (.t 96)⟩]) (.seq (.ops [⟨none,.cV 97 (.t 10)⟩,⟨none,.bi 98 .add (.t 97) (.c (.d (.int .i64 1)))⟩,⟨none,.e2 10 (.t 98)⟩]) (.seq (.ops [⟨none,.cV 99 (.t 5)⟩,⟨none,.aI 100 (.g 6) 1 false⟩,⟨none,.bi 101 .leq (.t 99) (.t 100)⟩,⟨none,.cV 102 (.t 101)⟩,⟨some (102,true),.cV 103 (.t 10)⟩,⟨some (102,true),.cV 104 (.t 8)⟩,⟨some (102,true),.dH (some 105) (.c (.d (.fn 202))) [(.t 104)]⟩,⟨some (102,true),.bi 106 .gtr (.t 103) (.t 105)⟩,⟨none,.dU 107 (.t 102) (.t 106) (.c (.d (.bool false)))⟩]) (.cond (.t 107) (.seq (.ops [⟨none,.cV 108 (.t 0)⟩,⟨none,.cV 109 (.t 8)⟩,⟨none,.ss 110 (.t 108) (some (.t 109)) none⟩,⟨none,.cV 111 (.t 1)⟩,⟨none,.dH (some 112) (.c (.d (.fn 201))) [(.t 110),(.t 111)]⟩,⟨none,.e2 12 (.t 112)⟩]) (.seq (.seq (.ops [⟨none,.cV 113 (.t 12)⟩,⟨none,.bi 114 .geq (.t 113) (.c (.d (.int .i64 0)))⟩]) (.cond (.t 114) (.seq (.ops [⟨none,.cV 115 (.t 12)⟩,⟨none,.cV 116 (.t 8)⟩,⟨none,.bi 117 .add (.t 115) (.t 116)⟩,⟨none,.e2 4 (.t 117)⟩]) .ret) .skip)) (.seq (.ops [⟨none,.e2 4 (.c (.d (.int .i64 (-1))))⟩]) .ret))) (.seq (.ops [⟨none,.cV 118 (.t 5)⟩,⟨none,.aI 119 (.g 6) 1 false⟩,⟨none,.bi 120 .gtr (.t 118) (.t 119)⟩,⟨none,.cV 121 (.t 120)⟩,⟨some (121,true),.cV 122 (.t 10)⟩,⟨some (121,true),.cV 123 (.t 8)⟩,⟨some (121,true),.bi 124 .shr (.t 123) (.c (.d (.int .u64 4)))⟩,⟨some (121,true),.bi 125 .add (.c (.d (.int .i64 4))) (.t 124)⟩,⟨some (121,true),.bi 126 .geq (.t 122) (.t 125)⟩,⟨none,.dU 127 (.t 121) (.t 126) (.c (.d (.bool false)))⟩,⟨none,.cV 128 (.t 127)⟩,⟨some (128,true),.cV 129 (.t 8)⟩,⟨some (128,true),.cV 130 (.t 9)⟩,⟨some (128,true),.bi 131 .lss (.t 129) (.t 130)⟩,⟨none,.dU 132 (.t 128) (.t 131) (.c (.d (.bool false)))⟩]) (.cond (.t 132) (.seq (.ops [⟨none,.cV 133 (.t 0)⟩,⟨none,.cV 134 (.t 8)⟩,⟨none,.ss 135 (.t 133) (some (.t 134)) none⟩,⟨none,.cV 136 (.t 1)⟩,⟨none,.dH (some 137) (.c (.d (.fn 203))) [(.t 135),(.t 136)]⟩,⟨none,.e2 13 (.t 137)⟩]) (.seq (.seq (.ops [⟨none,.cV 138 (.t 13)⟩,⟨none,.bi 139 .lss (.t 138) (.c (.d (.int .i64 0)))⟩]) (.cond (.t 139) (.seq (.ops [⟨none,.e2 4 (.c (.d (.int .i64 (-1))))⟩]) .ret) .skip)) (.seq (.ops [⟨none,.cV 140 (.t 8)⟩,⟨none,.cV 141 (.t 13)⟩,⟨none,.bi 142 .add (.t 140) (.t 141)⟩,⟨none,.e2 4 (.t 142)⟩]) .ret))) .skip)))))))))))) (.seq (.ops [⟨none,.e2 4 (.c (.d (.int .i64 (-1))))⟩]) .ret)))))))))),[.t 4]⟩
theorem ZM:a7 a1 171 ZL:=bf {live:=[([0,1,5,6,7,8,9,10],[])]}
def Uo:aX:=by
 have h:bb 176 {}=some ?v:=by conv=>lhs;cbv
 exact ?v
theorem Up:a7 a1 176 Uo:=bf {}
def ZN:aX:=by
 have h:bb 178 {own:=true}=some ?v:=by conv=>lhs;cbv
 exact ?v
theorem ZO:a7 a1 178 ZN:=bf {own:=true}
def X1:aX:=by
 have h:bb 182 {}=some ?v:=by conv=>lhs;cbv
 exact ?v
theorem X2:a7 a1 182 X1:=bf {}
def ZQ:aX:=by
 have h:bb 183 {}=some ?v:=by
  apply aAf;apply ma Tryz.func183;repeat (first|apply mb|apply mc|apply me|apply mf|(conv=>lhs;cbv)|rfl)
 exact ?v
theorem ZR:a7 a1 183 ZQ:=bf {}
def ZU:aX:=by
 have h:bb 188 {}=some ?v:=by conv=>lhs;cbv
 exact ?v
theorem ZV:a7 a1 188 ZU:=bf {}
def Uv:aX:=by
 have h:bb 189 {}=some ?v:=by conv=>lhs;cbv
 exact ?v
theorem Uw:a7 a1 189 Uv:=bf {}
def Wh:aX:=by
 have h:bb 196 {}=some ?v:=by conv=>lhs;cbv
 exact ?v
theorem Wi:a7 a1 196 Wh:=bf {}
def ZZ:aX:=by
 have h:bb 202 {}=some ?v:=by conv=>lhs;cbv
 exact ?v
theorem amg:a7 a1 202 ZZ:=bf {}
def Wk:aX:=by
 have h:bb 208 {live:=[([0,1,7,8],[])]}=some ?v:=by conv=>lhs;cbv
 exact ?v
theorem Wl:a7 a1 208 Wk:=bf {live:=[([0,1,7,8],[])]}
def UH:aX:=by
 have h:bb 213 {}=some ?v:=by conv=>lhs;cbv
 exact ?v
theorem UI:a7 a1 213 UH:=bf {}
def Z3:aX:=by
 have h:bb 225 {}=some ?v:=by conv=>lhs;cbv
 exact ?v
theorem Z4:a7 a1 225 Z3:=bf {}
def X9:aX:=by
 have h:bb 226 {take:=[15]}=some ?v:=by conv=>lhs;cbv
 exact ?v
theorem X':a7 a1 226 X9:=bf {take:=[15]}
def Z6:aX:=by
 have h:bb 249 {}=some ?v:=by conv=>lhs;cbv
 exact ?v
theorem ami:a7 a1 249 Z6:=bf {}
def Z7:aX:=by
 have h:bb 250 {live:=[([0,17,18,19],[])]}=some ?v:=by conv=>lhs;cbv
 exact ?v
theorem amj:a7 a1 250 Z7:=bf {live:=[([0,17,18,19],[])]}
def Yg:aX:=by
 have h:bb 256 {take:=[12],live:=[([3,6,7,8],[])]}=some ?v:=by conv=>lhs;cbv
 exact ?v
theorem Yh:a7 a1 256 Yg:=bf {take:=[12],live:=[([3,6,7,8],[])]}
def UP:aX:=by
 have h:bb 270 {}=some ?v:=by conv=>lhs;cbv
 exact ?v
theorem Ld:a7 a1 270 UP:=bf {}
def aaf:aX:=by
 have h:bb 278 {}=some ?v:=by conv=>lhs;cbv
 exact ?v
theorem amk:a7 a1 278 aaf:=bf {}
def Yu:aX:=by
 have h:bb 288 {}=some ?v:=by conv=>lhs;cbv
 exact ?v
theorem Yv:a7 a1 288 Yu:=bf {}
def WL:aX:=by
 have h:bb 289 {}=some ?v:=by conv=>lhs;cbv
 exact ?v
theorem WM:a7 a1 289 WL:=bf {}
def WN:aX:=by
 have h:bb 293 {}=some ?v:=by conv=>lhs;cbv
 exact ?v
theorem WO:a7 a1 293 WN:=bf {}
def WQ:aX:=by
 have h:bb 299 {live:=[([0,1,7,8],[])]}=some ?v:=by conv=>lhs;cbv
 exact ?v
theorem WR:a7 a1 299 WQ:=bf {live:=[([0,1,7,8],[])]}
def aak:aX:=by
 have h:bb 303 {}=some ?v:=by conv=>lhs;cbv
 exact ?v
theorem aal:a7 a1 303 aak:=bf {}
def vM:aX:=by
 have h:bb 306 {heap:=[1,4]}=some ?v:=by conv=>lhs;cbv
 exact ?v
theorem WS:a7 a1 306 vM:=bf {heap:=[1,4]}
def aam:aX:=by
 have h:bb 307 {}=some ?v:=by conv=>lhs;cbv
 exact ?v
theorem aan:a7 a1 307 aam:=bf {}
def YE:aX:=by
 have h:bb 310 {take:=[2]}=some ?v:=by conv=>lhs;cbv
 exact ?v
theorem YF:a7 a1 310 YE:=bf {take:=[2]}
end Go.Proofs.YtmgpekpnidjfoaaGreatDoor
