/- Part of parts_said. -/
import Derived.Test.YthffhbakgmemaaaGreatDoorP
set_option maxRecDepth 100000
set_option maxHeartbeats 8000000
namespace Go.Proofs.YthffhbakgmemaaaGreatDoor
open Go Go.aG
def Uq:aW:=by
 have h:a7 8 {}=some ?v:=by conv=>lhs;cbv
 exact ?v
theorem Ur:a6 a1 8 Uq:=a8 {}
def Us:aW:=by
 have h:a7 26 {}=some ?v:=by conv=>lhs;cbv
 exact ?v
theorem Ut:a6 a1 26 Us:=a8 {}
def Uu:aW:=by
 have h:a7 29 {take:=[13],live:=[([1,3,4],[1])]}=some ?v:=by conv=>lhs;cbv
 exact ?v
theorem Uv:a6 a1 29 Uu:=a8 {take:=[13],live:=[([1,3,4],[1])]}
def Uw:aW:=by
 have h:a7 31 {live:=[([0,1,5,6],[])]}=some ?v:=by conv=>lhs;cbv
 exact ?v
theorem anj:a6 a1 31 Uw:=a8 {live:=[([0,1,5,6],[])]}
def Ux:aW:=by
 have h:a7 42 {live:=[([0,3],[]),([0,3,4,5],[])],si:=[2]}=some ?v:=by conv=>lhs;cbv
 exact ?v
theorem L3:a6 a1 42 Ux:=a8 {live:=[([0,3],[]),([0,3,4,5],[])],si:=[2]}
def Uy:aW:=by
 have h:a7 49 {}=some ?v:=by conv=>lhs;cbv
 exact ?v
theorem Uz:a6 a1 49 Uy:=a8 {}
def UA:aW:=by
 have h:a7 51 {}=some ?v:=by conv=>lhs;cbv
 exact ?v
theorem L4:a6 a1 51 UA:=a8 {}
def UB:aW:=by
 have h:a7 56 {live:=[([0,1,7,8],[])]}=some ?v:=by conv=>lhs;cbv
 exact ?v
theorem L5:a6 a1 56 UB:=a8 {live:=[([0,1,7,8],[])]}
def UC:aW:=by
 have h:a7 64 {live:=[([0,3,6,7,8],[])]}=some ?v:=by conv=>lhs;cbv
 exact ?v
theorem UD:a6 a1 64 UC:=a8 {live:=[([0,3,6,7,8],[])]}
def UE:aW:=by
 have h:a7 77 {}=some ?v:=by conv=>lhs;cbv
 exact ?v
theorem L6:a6 a1 77 UE:=a8 {}
def UF:aW:=by
 have h:a7 87 {}=some ?v:=by conv=>lhs;cbv
 exact ?v
theorem ank:a6 a1 87 UF:=a8 {}
def UG:aW:=by
 have h:a7 88 {take:=[31],live:=[([0,2,3],[])]}=some ?v:=by conv=>lhs;cbv
 exact ?v
theorem UH:a6 a1 88 UG:=a8 {take:=[31],live:=[([0,2,3],[])]}
def UI:aW:=by
 have h:a7 90 {heap:=[1,3]}=some ?v:=by conv=>lhs;cbv
 exact ?v
theorem UJ:a6 a1 90 UI:=a8 {heap:=[1,3]}
def UK:aW:=by
 have h:a7 91 {heap:=[1,3]}=some ?v:=by conv=>lhs;cbv
 exact ?v
theorem UL:a6 a1 91 UK:=a8 {heap:=[1,3]}
def UM:aW:=by
 have h:a7 94 {}=some ?v:=by conv=>lhs;cbv
 exact ?v
theorem UN:a6 a1 94 UM:=a8 {}
def UO:aW:=by
 have h:a7 100 {take:=[75],heap:=[5],live:=[([0,1,39,40,41],[])]}=some ?v:=by
  apply aCO;apply kg Tryz.func100;repeat (first|apply kh|apply ki|apply kj|apply kk|(conv=>lhs;cbv)|rfl)
 exact ?v
theorem UP:a6 a1 100 UO:=a8 {take:=[75],heap:=[5],live:=[([0,1,39,40,41],[])]}
def UQ:aW:=by
 have h:a7 106 {take:=[21],live:=[([2,3,7,8],[3])]}=some ?v:=by conv=>lhs;cbv
 exact ?v
theorem anl:a6 a1 106 UQ:=a8 {take:=[21],live:=[([2,3,7,8],[3])]}
def UR:aW:=by
 have h:a7 110 {live:=[([0,1,4,10,11],[]),([0,10,13],[]),([0,2,4,14,15],[]),([0,14,17],[]),([0,1,2,3,4,18,19,20,21,22],[])]}=some ?v:=by
  apply aCO;apply kg Tryz.func110;repeat (first|apply kh|apply ki|apply kj|apply kk|(conv=>lhs;cbv)|rfl)
 exact ?v
theorem US:a6 a1 110 UR:=a8 {live:=[([0,1,4,10,11],[]),([0,10,13],[]),([0,2,4,14,15],[]),([0,14,17],[]),([0,1,2,3,4,18,19,20,21,22],[])]}
def UT:aW:=by
 have h:a7 119 {}=some ?v:=by conv=>lhs;cbv
 exact ?v
theorem UU:a6 a1 119 UT:=a8 {}
def UW:aW:=by
 have h:a7 126 {live:=[([0,2,3],[2,3])]}=some ?v:=by conv=>lhs;cbv
 exact ?v
theorem UX:a6 a1 126 UW:=a8 {live:=[([0,2,3],[2,3])]}
def UY:aW:=by
 have h:a7 137 {}=some ?v:=by conv=>lhs;cbv
 exact ?v
theorem L7:a6 a1 137 UY:=a8 {}
def UZ:aW:=by
 have h:a7 138 {live:=[([0,1,12,13],[])]}=some ?v:=by conv=>lhs;cbv
 exact ?v
theorem U0:a6 a1 138 UZ:=a8 {live:=[([0,1,12,13],[])]}
def U1:aW:=by
 have h:a7 139 {}=some ?v:=by conv=>lhs;cbv
 exact ?v
theorem U2:a6 a1 139 U1:=a8 {}
def U3:aW:=by
 have h:a7 141 {}=some ?v:=by conv=>lhs;cbv
 exact ?v
theorem U4:a6 a1 141 U3:=a8 {}
def U5:aW:=by
 have h:a7 142 {}=some ?v:=by conv=>lhs;cbv
 exact ?v
theorem U6:a6 a1 142 U5:=a8 {}
def U7:aW:=by
 have h:a7 143 {take:=[17],heap:=[2,3,4,6,7],live:=[([2,3,6,33,34,35],[])]}=some ?v:=by conv=>lhs;cbv
 exact ?v
theorem U8:a6 a1 143 U7:=a8 {take:=[17],heap:=[2,3,4,6,7],live:=[([2,3,6,33,34,35],[])]}
def U9:aW:=by
 have h:a7 148 {}=some ?v:=by conv=>lhs;cbv
 exact ?v
theorem U':a6 a1 148 U9:=a8 {}
def Va:aW:=by
 have h:a7 150 {}=some ?v:=by conv=>lhs;cbv
 exact ?v
theorem Vb:a6 a1 150 Va:=a8 {}
def Vc:aW:=by
 have h:a7 155 {take:=[35,95],live:=[([0,3,4,20,21,22],[]),([0,3,4,7],[]),([0,3,4,7,8,56,57,58],[])]}=some ?v:=by
  apply aCO;apply kg Tryz.func155;repeat (first|apply kh|apply ki|apply kj|apply kk|(conv=>lhs;cbv)|rfl)
 exact ?v
theorem Vd:a6 a1 155 Vc:=a8 {take:=[35,95],live:=[([0,3,4,20,21,22],[]),([0,3,4,7],[]),([0,3,4,7,8,56,57,58],[])]}
def Ve:aW:=by
 have h:a7 165 {}=some ?v:=by conv=>lhs;cbv
 exact ?v
theorem anm:a6 a1 165 Ve:=a8 {}
def Vf:aW:=by
 have h:a7 166 {}=some ?v:=by conv=>lhs;cbv
 exact ?v
theorem ano:a6 a1 166 Vf:=a8 {}
def Vg:aW:=by
 have h:a7 167 {}=some ?v:=by conv=>lhs;cbv
 exact ?v
theorem anp:a6 a1 167 Vg:=a8 {}
def Vh:aW:=by
 have h:a7 182 {objs:=[21,27,34,41,50,55,69]}=some ?v:=by conv=>lhs;cbv
 exact ?v
theorem Vi:a6 a1 182 Vh:=a8 {objs:=[21,27,34,41,50,55,69]}
def Vj:aW:=by
 have h:a7 183 {}=some ?v:=by conv=>lhs;cbv
 exact ?v
theorem Vk:a6 a1 183 Vj:=a8 {}
def Vl:aW:=by
 have h:a7 188 {live:=[([1,2,15,16,17],[])]}=some ?v:=by conv=>lhs;cbv
 exact ?v
theorem Vm:a6 a1 188 Vl:=a8 {live:=[([1,2,15,16,17],[])]}
def Vn:aW:=by
 have h:a7 189 {live:=[([0,1,12,13],[])]}=some ?v:=by conv=>lhs;cbv
 exact ?v
theorem Vo:a6 a1 189 Vn:=a8 {live:=[([0,1,12,13],[])]}
def Vp:aW:=by
 have h:a7 192 {live:=[([0,1,7,8],[])]}=some ?v:=by conv=>lhs;cbv
 exact ?v
theorem Vq:a6 a1 192 Vp:=a8 {live:=[([0,1,7,8],[])]}
def Vr:aW:=by
 have h:a7 204 {}=some ?v:=by conv=>lhs;cbv
 exact ?v
theorem Vs:a6 a1 204 Vr:=a8 {}
def Vt:aW:=by
 have h:a7 211 {take:=[20],live:=[([3,4,8,9,10],[])]}=some ?v:=by conv=>lhs;cbv
 exact ?v
theorem Vu:a6 a1 211 Vt:=a8 {take:=[20],live:=[([3,4,8,9,10],[])]}
def Vv:aW:=by
 have h:a7 212 {}=some ?v:=by conv=>lhs;cbv
 exact ?v
theorem Vw:a6 a1 212 Vv:=a8 {}
def Vx:aW:=by
 have h:a7 214 {}=some ?v:=by conv=>lhs;cbv
 exact ?v
theorem Vy:a6 a1 214 Vx:=a8 {}
def Vz:aW:=by
 have h:a7 225 {take:=[25],live:=[([1,3,8,9,10],[1])]}=some ?v:=by conv=>lhs;cbv
 exact ?v
theorem VA:a6 a1 225 Vz:=a8 {take:=[25],live:=[([1,3,8,9,10],[1])]}
def VB:aW:=by
 have h:a7 233 {}=some ?v:=by conv=>lhs;cbv
 exact ?v
theorem VC:a6 a1 233 VB:=a8 {}
def VD:aW:=by
 have h:a7 241 {heap:=[2]}=some ?v:=by conv=>lhs;cbv
 exact ?v
theorem VE:a6 a1 241 VD:=a8 {heap:=[2]}
def VF:aW:=by
 have h:a7 242 {live:=[([0,1,5],[])]}=some ?v:=by conv=>lhs;cbv
 exact ?v
theorem VG:a6 a1 242 VF:=a8 {live:=[([0,1,5],[])]}
def VH:aW:=by
 have h:a7 245 {take:=[35],live:=[([1,2,6,19,20,21],[2])]}=some ?v:=by conv=>lhs;cbv
 exact ?v
theorem VI:a6 a1 245 VH:=a8 {take:=[35],live:=[([1,2,6,19,20,21],[2])]}
def VJ:aW:=by
 have h:a7 249 {live:=[([1,13,14,15],[])]}=some ?v:=by conv=>lhs;cbv
 exact ?v
theorem VK:a6 a1 249 VJ:=a8 {live:=[([1,13,14,15],[])]}
def VL:aW:=by
 have h:a7 250 {live:=[([0,3,4,5],[])]}=some ?v:=by conv=>lhs;cbv
 exact ?v
theorem VM:a6 a1 250 VL:=a8 {live:=[([0,3,4,5],[])]}
def VN:aW:=by
 have h:a7 258 {}=some ?v:=by conv=>lhs;cbv
 exact ?v
theorem VO:a6 a1 258 VN:=a8 {}
def VP:aW:=by
 have h:a7 269 {}=some ?v:=by conv=>lhs;cbv
 exact ?v
theorem VQ:a6 a1 269 VP:=a8 {}
def VR:aW:=by
 have h:a7 270 {}=some ?v:=by conv=>lhs;cbv
 exact ?v
theorem VS:a6 a1 270 VR:=a8 {}
def VT:aW:=by
 have h:a7 271 {live:=[([0,1,2,6],[]),([0,1,2,6,7],[])]}=some ?v:=by
  apply aCO;apply kg Tryz.func271;repeat (first|apply kh|apply ki|apply kj|apply kk|(conv=>lhs;cbv)|rfl)
 exact ?v
theorem anq:a6 a1 271 VT:=a8 {live:=[([0,1,2,6],[]),([0,1,2,6,7],[])]}
def VU:aW:=by
 have h:a7 292 {}=some ?v:=by conv=>lhs;cbv
 exact ?v
theorem VW:a6 a1 292 VU:=a8 {}
def VX:aW:=⟨(.seq (.ops [⟨none,.e3 4 (.c (.d (.int .i64 0)))⟩]) (.seq (.ops [⟨none,.cZ 14 (.t 1)⟩,⟨none,.nE 15 true (.t 14)⟩,⟨none,.e3 5 (.t 15)⟩]) (.seq (.block 0 (.seq (.ops [⟨none,.cZ 17 (.t 5)⟩,⟨none,.bi 18 .eql (.t 17) (.c (.d (.int .i64 0)))⟩,⟨none,.cZ 19 (.t 18)⟩,⟨some (19,false),.cZ 20 (.t 1)⟩,⟨some (19,false),.cZ 21 (.t 0)⟩,⟨some (19,false),.bi 22 .eql (.t 20) (.t 21)⟩,⟨none,.dU 23 (.t 19) (.c (.d (.bool true))) (.t 22)⟩,⟨none,.e3 16 (.t 23)⟩]) (.cond (.t 16) (.seq (.ops [⟨none,.e3 4 (.c (.d (.int .i64 0)))⟩]) .ret) (.seq (.ops [⟨none,.cZ 25 (.t 5)⟩,⟨none,.bi 26 .eql (.t 25) (.c (.d (.int .i64 1)))⟩,⟨none,.e3 24 (.t 26)⟩]) (.cond (.t 24) (.seq (.ops [⟨none,.cZ 27 (.t 0)⟩,⟨none,.cZ 28 (.t 1)⟩,⟨none,.mR 29 (.t 28) (.c (.d (.int .i64 0)))⟩,⟨none,.cl (some 30) (.c (.d (.fn 327))) [(.t 27),(.t 29)]⟩,⟨none,.e3 4 (.t 30)⟩]) .ret) (.seq (.ops [⟨none,.cZ 32 (.t 5)⟩,⟨none,.cZ 33 (.t 0)⟩,⟨none,.nE 34 true (.t 33)⟩,⟨none,.bi 35 .geq (.t 32) (.t 34)⟩,⟨none,.e3 31 (.t 35)⟩]) (.cond (.t 31) (.seq (.ops [⟨none,.e3 4 (.c (.d (.int .i64 (-1))))⟩]) .ret) (.seq (.ops [⟨none,.cZ 37 (.t 5)⟩,⟨none,.aE 38 (.g 5) 1 false⟩,⟨none,.bi 39 .leq (.t 37) (.t 38)⟩,⟨none,.cZ 40 (.t 39)⟩,⟨some (40,true),.cZ 41 (.t 0)⟩,⟨some (40,true),.nE 42 true (.t 41)⟩,⟨some (40,true),.bi 43 .leq (.t 42) (.c (.d (.int .i64 64)))⟩,⟨none,.dU 44 (.t 40) (.t 43) (.c (.d (.bool false)))⟩,⟨none,.e3 36 (.t 44)⟩]) (.cond (.t 36) (.seq (.ops [⟨none,.cZ 45 (.t 0)⟩,⟨none,.cZ 46 (.t 1)⟩,⟨none,.cl (some 47) (.c (.d (.fn 328))) [(.t 45),(.t 46)]⟩,⟨none,.e3 4 (.t 47)⟩]) .ret) .skip))))))))) (.seq (.ops [⟨none,.cZ 48 (.t 1)⟩,⟨none,.mR 49 (.t 48) (.c (.d (.int .i64 0)))⟩,⟨none,.e3 6 (.t 49)⟩]) (.seq (.ops [⟨none,.cZ 50 (.t 1)⟩,⟨none,.mR 51 (.t 50) (.c (.d (.int .i64 1)))⟩,⟨none,.e3 7 (.t 51)⟩]) (.seq (.ops [⟨none,.e3 8 (.c (.d (.int .i64 0)))⟩]) (.seq (.ops [⟨none,.cZ 52 (.t 0)⟩,⟨none,.nE 53 true (.t 52)⟩,⟨none,.cZ 54 (.t 5)⟩,⟨none,.bi 55 .sub (.t 53) (.t 54)⟩,⟨none,.bi 56 .add (.t 55) (.c (.d (.int .i64 1)))⟩,⟨none,.e3 9 (.t 56)⟩]) (.seq (.ops [⟨none,.e3 10 (.c (.d (.int .i64 0)))⟩]) (.seq (.block 1 (.loop [0,1,5,6,7,8,9,10] [] (.seq (.seq (.ops [⟨none,.cZ 57 (.t 8)⟩,⟨none,.cZ 58 (.t 9)⟩,⟨none,.bi 59 .lss (.t 57) (.t 58)⟩]) (.cond (.t 59) .skip (.exit 1))) (.block 2 (.seq (.seq (.ops [⟨none,.cZ 60 (.t 0)⟩,⟨none,.cZ 61 (.t 8)⟩,⟨none,.mR 62 (.t 60) (.t 61)⟩,⟨none,.cZ 63 (.t 6)⟩,⟨none,.bi 64 .neq (.t 62) (.t 63)⟩]) (.cond (.t 64) (.seq (.ops [⟨none,.cZ 65 (.t 0)⟩,⟨none,.cZ 66 (.t 8)⟩,⟨none,.bi 67 .add (.t 66) (.c (.d (.int .i64 1)))⟩,⟨none,.cZ 68 (.t 9)⟩,⟨none,.ss 69 (.t 65) (some (.t 67)) (some (.t 68))⟩,⟨none,.cZ 70 (.t 6)⟩,⟨none,.cl (some 71) (.c (.d (.fn 327))) [(.t 69),(.t 70)]⟩,⟨none,.e3 11 (.t 71)⟩]) (.seq (.seq (.ops [⟨none,.cZ 72 (.t 11)⟩,⟨none,.bi 73 .lss (.t 72) (.c (.d (.int .i64 0)))⟩]) (.cond (.t 73) (.seq (.ops [⟨none,.e3 4 (.c (.d (.int .i64 (-1))))⟩]) .ret) .skip)) (.ops [⟨none,.cZ 74 (.t 8)⟩,⟨none,.cZ 75 (.t 11)⟩,⟨none,.bi 76 .add (.t 75) (.c (.d (.int .i64 1)))⟩,⟨none,.bi 77 .add (.t 74) (.t 76)⟩,⟨none,.e3 8 (.t 77)⟩]))) .skip)) (.seq (.seq (.ops [⟨none,.cZ 78 (.t 0)⟩,⟨none,.cZ 79 (.t 8)⟩,⟨none,.bi 80 .add (.t 79) (.c (.d (.int .i64 1)))⟩,⟨none,.mR 81 (.t 78) (.t 80)⟩,⟨none,.cZ 82 (.t 7)⟩,⟨none,.bi 83 .eql (.t 81) (.t 82)⟩,⟨none,.cZ 84 (.t 83)⟩,⟨some (84,true),.cZ 85 (.t 0)⟩,⟨some (84,true),.cZ 86 (.t 8)⟩,⟨some (84,true),.cZ 87 (.t 8)⟩,⟨some (84,true),.cZ 88 (.t 5)⟩,⟨some (84,true),.bi 89 .add (.t 87) (.t 88)⟩,⟨some (84,true),.ss 90 (.t 85) (some (.t 86)) (some (.t 89))⟩,⟨some (84,true),.cZ 91 (.t 1)⟩,⟨some (84,true),.bi 92 .eql (.t 90) (.t 91)⟩,⟨none,.dU 93 (.t 84) (.t 92) (.c (.d (.bool false)))⟩]) (.cond (.t 93) (.seq (.ops [⟨none,.cZ 94 (.t 8)⟩,⟨none,.e3 4 (.t 94)⟩]) .ret) .skip)) (.seq (.ops [⟨none,.cZ 95 (.t 8)⟩,⟨none,.bi 96 .add (.t 95) (.c (.d (.int .i64 1)))⟩,⟨none,.e3 8 (.t 96)⟩]) (.seq (.ops [⟨none,.cZ 97 (.t 10)⟩,⟨none,.bi 98 .add (.t 97) (.c (.d (.int .i64 1)))⟩,⟨none,.e3 10 (.t 98)⟩]) (.seq (.ops [⟨none,.cZ 99 (.t 5)⟩,⟨none,.aE 100 (.g 5) 1 false⟩,⟨none,.bi 101 .leq (.t 99) (.t 100)⟩,⟨none,.cZ 102 (.t 101)⟩,⟨some (102,true),.cZ 103 (.t 10)⟩,⟨some (102,true),.cZ 104 (.t 8)⟩,⟨some (102,true),.cl (some 105) (.c (.d (.fn 329))) [(.t 104)]⟩,⟨some (102,true),.bi 106 .gtr (.t 103) (.t 105)⟩,⟨none,.dU 107 (.t 102) (.t 106) (.c (.d (.bool false)))⟩]) (.cond (.t 107) (.seq (.ops [⟨none,.cZ 108 (.t 0)⟩,⟨none,.cZ 109 (.t 8)⟩,⟨none,.ss 110 (.t 108) (some (.t 109)) none⟩,⟨none,.cZ 111 (.t 1)⟩,⟨none,.cl (some 112) (.c (.d (.fn 328))) [(.t 110),(.t 111)]⟩,⟨none,.e3 12 (.t 112)⟩]) (.seq (.seq (.ops [⟨none,.cZ 113 (.t 12)⟩,⟨none,.bi 114 .geq (.t 113) (.c (.d (.int .i64 0)))⟩]) (.cond (.t 114) (.seq (.ops [⟨none,.cZ 115 (.t 12)⟩,⟨none,.cZ 116 (.t 8)⟩,⟨none,.bi 117 .add (.t 115) (.t 116)⟩,⟨none,.e3 4 (.t 117)⟩]) .ret) .skip)) (.seq (.ops [⟨none,.e3 4 (.c (.d (.int .i64 (-1))))⟩]) .ret))) (.seq (.ops [⟨none,.cZ 118 (.t 5)⟩,⟨none,.aE 119 (.g 5) 1 false⟩,⟨none,.bi 120 .gtr (.t 118) (.t 119)⟩,⟨none,.cZ 121 (.t 120)⟩,⟨some (121,true),.cZ 122 (.t 10)⟩,⟨some (121,true),.cZ 123 (.t 8)⟩,⟨some (121,true),.bi 124 .shr (.t 123) (.c (.d (.int .u64 4)))⟩,⟨some (121,true),.bi 125 .add (.c (.d (.int .i64 4))) (.t 124)⟩,⟨some (121,true),.bi 126 .geq (.t 122) (.t 125)⟩,⟨none,.dU 127 (.t 121) (.t 126) (.c (.d (.bool false)))⟩,⟨none,.cZ 128 (.t 127)⟩,⟨some (128,true),.cZ 129 (.t 8)⟩,⟨some (128,true),.cZ 130 (.t 9)⟩,⟨some (128,true),.bi 131 .lss (.t 129) (.t 130)⟩,⟨none,.dU 132 (.t 128) (.t 131) (.c (.d (.bool false)))⟩]) (.cond (.t 132) (.seq (.ops [⟨none,.cZ 133 (.t 0)⟩,⟨none,.cZ 134 (.t 8)⟩,⟨none,.ss 135 (.t 133) (some (.t 134)) none⟩,⟨none,.cZ 136 (.t 1)⟩,⟨none,.cl (some 137) (.c (.d (.fn 330))) [(.t 135),(.t 136)]⟩,⟨none,.e3 13 (.t 137)⟩]) (.seq (.seq (.ops [⟨none,.cZ 138 (.t 13)⟩,⟨none,.bi 139 .lss (.t 138) (.c (.d (.int .i64 0)))⟩]) (.cond (.t 139) (.seq (.ops [⟨none,.e3 4 (.c (.d (.int .i64 (-1))))⟩]) .ret) .skip)) (.seq (.ops [⟨none,.cZ 140 (.t 8)⟩,⟨none,.cZ 141 (.t 13)⟩,⟨none,.bi 142 .add (.t 140) (.t 141)⟩,⟨none,.e3 4 (.t 142)⟩]) .ret))) .skip)))))))))))) (.seq (.ops [⟨none,.e3 4 (.c (.d (.int .i64 (-1))))⟩]) .ret)))))))))),[.t 4]⟩
theorem VY:a6 a1 304 VX:=a8 {live:=[([0,1,5,6,7,8,9,10],[])]}
def VZ:aW:=⟨(.seq (.ops [⟨none,.fV 1 (.t 0) 7⟩,⟨none,.e3 2 (.c (.d (.bool false)))⟩]) (.seq (.seq (.ops [⟨none,.gJ 5 (.t 1) 0⟩,⟨none,.ia 6 (.t 5) 1 0 1 false⟩]) (.block 0 (.seq (.ops [⟨none,.bi 8 .eql (.t 6) (.c (.d (.int .i64 1)))⟩,⟨none,.e3 7 (.t 8)⟩]) (.cond (.t 7) (.seq (.any [⟨none,.gJ 9 (.t 1) 5⟩,⟨none,.ia 10 (.t 9) 1 5 1 false⟩,⟨none,.bi 11 .eql (.t 10) (.c (.d (.str [])))⟩,⟨none,.cZ 12 (.t 11)⟩,⟨some (12,true),.gJ 13 (.t 1) 6⟩,⟨some (12,true),.ia 14 (.t 13) 1 6 1 false⟩,⟨some (12,true),.nE 15 false (.t 14)⟩,⟨some (12,true),.bi 16 .eql (.t 15) (.c (.d (.int .i64 0)))⟩,⟨none,.dU 17 (.t 12) (.t 16) (.c (.d (.bool false)))⟩,⟨none,.cZ 18 (.t 17)⟩,⟨some (18,true),.gJ 19 (.t 1) 2⟩,⟨some (18,true),.ia 20 (.t 19) 1 2 3 true⟩,⟨some (18,true),.cl (some 21) (.c (.d (.fn 210))) []⟩,⟨some (18,true),.eq 22 false true [1,1,2] (.t 20) (.t 21)⟩,⟨none,.dU 23 (.t 18) (.t 22) (.c (.d (.bool false)))⟩,⟨none,.e3 2 (.t 23)⟩] [[],[],[],[],[],[],[],[],[],[],[],[],[],[],[],[]]) .ret) (.seq (.ops [⟨none,.bi 25 .eql (.t 6) (.c (.d (.int .i64 2)))⟩,⟨none,.e3 24 (.t 25)⟩]) (.cond (.t 24) (.seq (.ops [⟨none,.gJ 26 (.t 1) 1⟩,⟨none,.ia 27 (.t 26) 1 1 1 false⟩,⟨none,.bi 28 .eql (.t 27) (.c (.d (.str [])))⟩,⟨none,.cZ 29 (.t 28)⟩,⟨some (29,true),.gJ 30 (.t 1) 5⟩,⟨some (29,true),.ia 31 (.t 30) 1 5 1 false⟩,⟨some (29,true),.bi 32 .eql (.t 31) (.c (.d (.str [])))⟩,⟨none,.dU 33 (.t 29) (.t 32) (.c (.d (.bool false)))⟩,⟨none,.cZ 34 (.t 33)⟩,⟨some (34,true),.gJ 35 (.t 1) 6⟩,⟨some (34,true),.ia 36 (.t 35) 1 6 1 false⟩,⟨some (34,true),.nE 37 false (.t 36)⟩,⟨some (34,true),.bi 38 .eql (.t 37) (.c (.d (.int .i64 0)))⟩,⟨none,.dU 39 (.t 34) (.t 38) (.c (.d (.bool false)))⟩,⟨none,.cZ 40 (.t 39)⟩,⟨some (40,true),.gJ 41 (.t 1) 2⟩,⟨some (40,true),.ia 42 (.t 41) 1 2 3 true⟩,⟨some (40,true),.cl (some 43) (.c (.d (.fn 183))) [(.t 42)]⟩,⟨none,.dU 44 (.t 40) (.t 43) (.c (.d (.bool false)))⟩,⟨none,.e3 2 (.t 44)⟩]) .ret) .skip)))))) (.seq (.ops [⟨none,.ia 46 (.t 1) 1 0 7 true⟩,⟨none,.cl (some 47) (.c (.d (.fn 311))) [(.t 46)]⟩,⟨none,.cZ 45 (.t 47)⟩,⟨none,.ex 48 (.t 45) 0⟩,⟨none,.ex 49 (.t 45) 1⟩,⟨none,.ll 3 [(.d (.str [])),(.own 1 []),(.d (.int .i64 0))]⟩,⟨none,.ls (.t 3) 3 0 (.t 48) 3⟩,⟨none,.e3 4 (.t 49)⟩]) (.seq (.any [⟨none,.cZ 50 (.t 4)⟩,⟨none,.cZ 51 (.t 50)⟩,⟨some (51,true),.gJ 52 (.t 1) 2⟩,⟨some (51,true),.ia 53 (.t 52) 1 2 3 true⟩,⟨some (51,true),.cl (some 54) (.c (.d (.fn 210))) []⟩,⟨some (51,true),.eq 55 false true [1,1,2] (.t 53) (.t 54)⟩,⟨none,.dU 56 (.t 51) (.t 55) (.c (.d (.bool false)))⟩,⟨none,.cZ 57 (.t 56)⟩,⟨some (57,true),.gJ 58 (.t 1) 0⟩,⟨some (57,true),.ia 59 (.t 58) 1 0 1 false⟩,⟨some (57,true),.bi 60 .eql (.t 59) (.c (.d (.int .i64 5)))⟩,⟨some (57,true),.cZ 61 (.t 60)⟩,⟨some (61,true),.gJ 62 (.t 1) 5⟩,⟨some (61,true),.ia 63 (.t 62) 1 5 1 false⟩,⟨some (61,true),.bi 64 .eql (.t 63) (.c (.d (.str [])))⟩,⟨some (57,true),.dU 65 (.t 61) (.t 64) (.c (.d (.bool false)))⟩,⟨some (57,true),.cZ 66 (.t 65)⟩,⟨some (66,false),.gJ 67 (.t 1) 0⟩,⟨some (66,false),.ia 68 (.t 67) 1 0 1 false⟩,⟨some (66,false),.bi 69 .neq (.t 68) (.c (.d (.int .i64 5)))⟩,⟨some (66,false),.cZ 70 (.t 69)⟩,⟨some (70,true),.gJ 71 (.t 1) 1⟩,⟨some (70,true),.ia 72 (.t 71) 1 1 1 false⟩,⟨some (70,true),.bi 73 .eql (.t 72) (.c (.d (.str [])))⟩,⟨some (66,false),.dU 74 (.t 70) (.t 73) (.c (.d (.bool false)))⟩,⟨some (57,true),.dU 75 (.t 66) (.c (.d (.bool true))) (.t 74)⟩,⟨none,.dU 76 (.t 57) (.t 75) (.c (.d (.bool false)))⟩,⟨none,.e3 2 (.t 76)⟩] [[],[],[],[],[],[],[],[],[],[],[],[],[],[],[],[],[],[],[],[],[],[],[],[],[],[],[],[]]) .ret)))),[.t 2]⟩
theorem V0:a6 a1 310 VZ:=a8 {}
def V1:aW:=by
 have h:a7 311 {heap:=[4]}=some ?v:=by
  apply aCO;apply kg Tryz.func311;repeat (first|apply kh|apply ki|apply kj|apply kk|(conv=>lhs;cbv)|rfl)
 exact ?v
theorem V2:a6 a1 311 V1:=a8 {heap:=[4]}
def V3:aW:=by
 have h:a7 316 {}=some ?v:=by conv=>lhs;cbv
 exact ?v
theorem V4:a6 a1 316 V3:=a8 {}
def V5:aW:=by
 have h:a7 317 {}=some ?v:=by conv=>lhs;cbv
 exact ?v
theorem V6:a6 a1 317 V5:=a8 {}
def V7:aW:=by
 have h:a7 321 {}=some ?v:=by conv=>lhs;cbv
 exact ?v
theorem V8:a6 a1 321 V7:=a8 {}
def V9:aW:=by
 have h:a7 322 {}=some ?v:=by conv=>lhs;cbv
 exact ?v
theorem V':a6 a1 322 V9:=a8 {}
def Wa:aW:=by
 have h:a7 334 {live:=[([0,1,7,8],[])]}=some ?v:=by conv=>lhs;cbv
 exact ?v
theorem Wb:a6 a1 334 Wa:=a8 {live:=[([0,1,7,8],[])]}
def Wc:aW:=by
 have h:a7 337 {}=some ?v:=by conv=>lhs;cbv
 exact ?v
theorem Wd:a6 a1 337 Wc:=a8 {}
def Wf:aW:=by
 have h:a7 345 {}=some ?v:=by conv=>lhs;cbv
 exact ?v
theorem Wg:a6 a1 345 Wf:=a8 {}
def Wh:aW:=by
 have h:a7 346 {}=some ?v:=by conv=>lhs;cbv
 exact ?v
theorem Wi:a6 a1 346 Wh:=a8 {}
end Go.Proofs.YthffhbakgmemaaaGreatDoor
