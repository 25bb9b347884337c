/- Part of texts_said. -/
import Derived.Test.YtmgpekpnidjfoaaGreatDoorP
set_option maxRecDepth 100000
set_option maxHeartbeats 8000000
namespace Go.Proofs.YtmgpekpnidjfoaaGreatDoor
open Go Go.aJ
def Us:aX:=by
 have h:bf 3 {}=some ?v:=by conv=>lhs;cbv
 exact ?v
theorem FC:a7 a1.prog 3 Us:=bg {}
def Ut:aX:=by
 have h:bf 5 {}=some ?v:=by conv=>lhs;cbv
 exact ?v
theorem akP:a7 a1.prog 5 Ut:=bg {}
def Uu:aX:=by
 have h:bf 8 {heap:=[4],live:=[([0,4,10,11,12],[])],hM:=[4]}=some ?v:=by conv=>lhs;cbv
 exact ?v
theorem Uv:a7 a1.prog 8 Uu:=bg {heap:=[4],live:=[([0,4,10,11,12],[])],hM:=[4]}
def Uw:aX:=by
 have h:bf 9 {}=some ?v:=by conv=>lhs;cbv
 exact ?v
theorem Ux:a7 a1.prog 9 Uw:=bg {}
def Uy:aX:=by
 have h:bf 21 {}=some ?v:=by conv=>lhs;cbv
 exact ?v
theorem akQ:a7 a1.prog 21 Uy:=bg {}
def Uz:aX:=by
 have h:bf 24 {take:=[51,68,92],heap:=[36],live:=[([0,2,37,38,39],[]),([0,2,105,106,107],[])],objs:=[105,55],q9:=[99],uk:=[56,85]}=some ?v:=by
  apply azK;apply mC Tryz.func24;repeat (first|apply mD|apply mE|apply mF|apply mG|(conv=>lhs;cbv)|rfl)
 exact ?v
theorem UA:a7 a1.prog 24 Uz:=bg {take:=[51,68,92],heap:=[36],live:=[([0,2,37,38,39],[]),([0,2,105,106,107],[])],objs:=[105,55],q9:=[99],uk:=[56,85]}
def UB:aX:=by
 have h:bf 25 {heap:=[18]}=some ?v:=by conv=>lhs;cbv
 exact ?v
theorem UC:a7 a1.prog 25 UB:=bg {heap:=[18]}
def UD:aX:=by
 have h:bf 27 {}=some ?v:=by
  apply azK;apply mC Tryz.func27;repeat (first|apply mD|apply mE|apply mF|apply mG|(conv=>lhs;cbv)|rfl)
 exact ?v
theorem FD:a7 a1.prog 27 UD:=bg {}
def UE:aX:=by
 have h:bf 31 {live:=[([1,2,15,16,17],[])]}=some ?v:=by conv=>lhs;cbv
 exact ?v
theorem UF:a7 a1.prog 31 UE:=bg {live:=[([1,2,15,16,17],[])]}
def UG:aX:=by
 have h:bf 42 {}=some ?v:=by conv=>lhs;cbv
 exact ?v
theorem UH:a7 a1.prog 42 UG:=bg {}
def UI:aX:=by
 have h:bf 44 {}=some ?v:=by conv=>lhs;cbv
 exact ?v
theorem akR:a7 a1.prog 44 UI:=bg {}
def UJ:aX:=by
 have h:bf 47 {live:=[([0,3,6,7,8],[])]}=some ?v:=by conv=>lhs;cbv
 exact ?v
theorem akS:a7 a1.prog 47 UJ:=bg {live:=[([0,3,6,7,8],[])]}
def UK:aX:=by
 have h:bf 48 {}=some ?v:=by conv=>lhs;cbv
 exact ?v
theorem UL:a7 a1.prog 48 UK:=bg {}
def UM:aX:=by
 have h:bf 50 {take:=[21],live:=[([0,4,15,16,17],[]),([0,49,50,51],[]),([0,4,8,74,75],[])]}=some ?v:=by conv=>lhs;cbv
 exact ?v
theorem UN:a7 a1.prog 50 UM:=bg {take:=[21],live:=[([0,4,15,16,17],[]),([0,49,50,51],[]),([0,4,8,74,75],[])]}
def UO:aX:=by
 have h:bf 53 {live:=[([0,7,8,9],[])]}=some ?v:=by conv=>lhs;cbv
 exact ?v
theorem UP:a7 a1.prog 53 UO:=bg {live:=[([0,7,8,9],[])]}
def UQ:aX:=by
 have h:bf 63 {}=some ?v:=by conv=>lhs;cbv
 exact ?v
theorem UR:a7 a1.prog 63 UQ:=bg {}
def US:aX:=by
 have h:bf 68 {}=some ?v:=by conv=>lhs;cbv
 exact ?v
theorem UT:a7 a1.prog 68 US:=bg {}
def UU:aX:=by
 have h:bf 70 {live:=[([0,1,2,6,7,8],[]),([0,1,2,6],[]),([0,1,2,6,7,8],[])]}=some ?v:=by conv=>lhs;cbv
 exact ?v
theorem KH:a7 a1.prog 70 UU:=bg {live:=[([0,1,2,6,7,8],[]),([0,1,2,6],[]),([0,1,2,6,7,8],[])]}
def UW:aX:=by
 have h:bf 73 {}=some ?v:=by conv=>lhs;cbv
 exact ?v
theorem KI:a7 a1.prog 73 UW:=bg {}
def UX:aX:=by
 have h:bf 75 {live:=[([1,2,7,8],[])]}=some ?v:=by conv=>lhs;cbv
 exact ?v
theorem UY:a7 a1.prog 75 UX:=bg {live:=[([1,2,7,8],[])]}
def UZ:aX:=by
 have h:bf 79 {}=some ?v:=by conv=>lhs;cbv
 exact ?v
theorem KJ:a7 a1.prog 79 UZ:=bg {}
def U0:aX:=by
 have h:bf 87 {take:=[33,22],live:=[([1,2,7,8],[])],Dr:=[23]}=some ?v:=by conv=>lhs;cbv
 exact ?v
theorem U1:a7 a1.prog 87 U0:=bg {take:=[33,22],live:=[([1,2,7,8],[])],Dr:=[23]}
def U2:aX:=by
 have h:bf 92 {}=some ?v:=by conv=>lhs;cbv
 exact ?v
theorem U3:a7 a1.prog 92 U2:=bg {}
def U4:aX:=by
 have h:bf 96 {}=some ?v:=by conv=>lhs;cbv
 exact ?v
theorem U5:a7 a1.prog 96 U4:=bg {}
def U6:aX:=by
 have h:bf 98 {}=some ?v:=by conv=>lhs;cbv
 exact ?v
theorem Cl:a7 a1.prog 98 U6:=bg {}
def U7:aX:=by
 have h:bf 100 {live:=[([0,2,3],[2,3])]}=some ?v:=by conv=>lhs;cbv
 exact ?v
theorem U8:a7 a1.prog 100 U7:=bg {live:=[([0,2,3],[2,3])]}
def U9:aX:=by
 have h:bf 104 {live:=[([0,1,5,6],[])]}=some ?v:=by conv=>lhs;cbv
 exact ?v
theorem U':a7 a1.prog 104 U9:=bg {live:=[([0,1,5,6],[])]}
def Va:aX:=by
 have h:bf 105 {}=some ?v:=by conv=>lhs;cbv
 exact ?v
theorem Vb:a7 a1.prog 105 Va:=bg {}
def Vc:aX:=by
 have h:bf 108 {}=some ?v:=by conv=>lhs;cbv
 exact ?v
theorem KK:a7 a1.prog 108 Vc:=bg {}
def Vd:aX:=by
 have h:bf 116 {live:=[([0,1,12,13],[])]}=some ?v:=by conv=>lhs;cbv
 exact ?v
theorem Ve:a7 a1.prog 116 Vd:=bg {live:=[([0,1,12,13],[])]}
def Vf:aX:=by
 have h:bf 121 {}=some ?v:=by conv=>lhs;cbv
 exact ?v
theorem Vg:a7 a1.prog 121 Vf:=bg {}
def Vh:aX:=by
 have h:bf 127 {}=some ?v:=by conv=>lhs;cbv
 exact ?v
theorem KL:a7 a1.prog 127 Vh:=bg {}
def Vi:aX:=by
 have h:bf 131 {}=some ?v:=by conv=>lhs;cbv
 exact ?v
theorem Vj:a7 a1.prog 131 Vi:=bg {}
def Vk:aX:=by
 have h:bf 135 {}=some ?v:=by conv=>lhs;cbv
 exact ?v
theorem Vl:a7 a1.prog 135 Vk:=bg {}
def Vm:aX:=by
 have h:bf 151 {}=some ?v:=by conv=>lhs;cbv
 exact ?v
theorem akT:a7 a1.prog 151 Vm:=bg {}
def Vn:aX:=by
 have h:bf 155 {}=some ?v:=by conv=>lhs;cbv
 exact ?v
theorem Vo:a7 a1.prog 155 Vn:=bg {}
def Vp:aX:=by
 have h:bf 156 {heap:=[1]}=some ?v:=by conv=>lhs;cbv
 exact ?v
theorem KM:a7 a1.prog 156 Vp:=bg {heap:=[1]}
def Vq:aX:=by
 have h:bf 160 {live:=[([0,1,7,8],[])]}=some ?v:=by conv=>lhs;cbv
 exact ?v
theorem KN:a7 a1.prog 160 Vq:=bg {live:=[([0,1,7,8],[])]}
def Vr:aX:=by
 have h:bf 186 {}=some ?v:=by conv=>lhs;cbv
 exact ?v
theorem Vs:a7 a1.prog 186 Vr:=bg {}
def Vt:aX:=by
 have h:bf 188 {}=some ?v:=by conv=>lhs;cbv
 exact ?v
theorem Vu:a7 a1.prog 188 Vt:=bg {}
def Vv:aX:=by
 have h:bf 196 {}=some ?v:=by conv=>lhs;cbv
 exact ?v
theorem Vw:a7 a1.prog 196 Vv:=bg {}
def Vx:aX:=by
 have h:bf 204 {}=some ?v:=by conv=>lhs;cbv
 exact ?v
theorem Vy:a7 a1.prog 204 Vx:=bg {}
def Vz:aX:=by
 have h:bf 208 {live:=[([0,1,7,8],[])]}=some ?v:=by conv=>lhs;cbv
 exact ?v
theorem VA:a7 a1.prog 208 Vz:=bg {live:=[([0,1,7,8],[])]}
def VB:aX:=by
 have h:bf 210 {heap:=[2]}=some ?v:=by conv=>lhs;cbv
 exact ?v
theorem VC:a7 a1.prog 210 VB:=bg {heap:=[2]}
def VD:aX:=by
 have h:bf 216 {live:=[([1,2,18,19,20],[])]}=some ?v:=by conv=>lhs;cbv
 exact ?v
theorem VE:a7 a1.prog 216 VD:=bg {live:=[([1,2,18,19,20],[])]}
def VF:aX:=by
 have h:bf 218 {live:=[([1,13,14,15],[])]}=some ?v:=by conv=>lhs;cbv
 exact ?v
theorem VG:a7 a1.prog 218 VF:=bg {live:=[([1,13,14,15],[])]}
def VH:aX:=by
 have h:bf 227 {take:=[36]}=some ?v:=by conv=>lhs;cbv
 exact ?v
theorem VI:a7 a1.prog 227 VH:=bg {take:=[36]}
def VJ:aX:=by
 have h:bf 253 {live:=[([3,7,8,9],[])]}=some ?v:=by conv=>lhs;cbv
 exact ?v
theorem VK:a7 a1.prog 253 VJ:=bg {live:=[([3,7,8,9],[])]}
def VL:aX:=by
 have h:bf 255 {}=some ?v:=by conv=>lhs;cbv
 exact ?v
theorem VM:a7 a1.prog 255 VL:=bg {}
def VN:aX:=by
 have h:bf 258 {heap:=[3]}=some ?v:=by conv=>lhs;cbv
 exact ?v
theorem VO:a7 a1.prog 258 VN:=bg {heap:=[3]}
def VP:aX:=by
 have h:bf 263 {live:=[([0,1,2,6,7],[6,7])]}=some ?v:=by conv=>lhs;cbv
 exact ?v
theorem VQ:a7 a1.prog 263 VP:=bg {live:=[([0,1,2,6,7],[6,7])]}
def VR:aX:=by
 have h:bf 264 {}=some ?v:=by conv=>lhs;cbv
 exact ?v
theorem VS:a7 a1.prog 264 VR:=bg {}
def VT:aX:=⟨(.seq (.ops [⟨none,.fO 1 (.t 0) 7⟩,⟨none,.eZ 2 (.c (.d (.bool false)))⟩]) (.seq (.seq (.ops [⟨none,.gF 5 (.t 1) 0⟩,⟨none,.hN 6 (.t 5) 1 0 1 false⟩]) (.block 0 (.seq (.ops [⟨none,.bi 8 .eql (.t 6) (.c (.d (.int .i64 1)))⟩,⟨none,.eZ 7 (.t 8)⟩]) (.cond (.t 7) (.seq (.any [⟨none,.gF 9 (.t 1) 5⟩,⟨none,.hN 10 (.t 9) 1 5 1 false⟩,⟨none,.bi 11 .eql (.t 10) (.c (.d (.str [])))⟩,⟨none,.cS 12 (.t 11)⟩,⟨some (12,true),.gF 13 (.t 1) 6⟩,⟨some (12,true),.hN 14 (.t 13) 1 6 1 false⟩,⟨some (12,true),.mP 15 false (.t 14)⟩,⟨some (12,true),.bi 16 .eql (.t 15) (.c (.d (.int .i64 0)))⟩,⟨none,.ei 17 (.t 12) (.t 16) (.c (.d (.bool false)))⟩,⟨none,.cS 18 (.t 17)⟩,⟨some (18,true),.gF 19 (.t 1) 2⟩,⟨some (18,true),.hN 20 (.t 19) 1 2 3 true⟩,⟨some (18,true),.dH (some 21) (.c (.d (.fn 186))) []⟩,⟨some (18,true),.eq 22 false true [1,1,2] (.t 20) (.t 21)⟩,⟨none,.ei 23 (.t 18) (.t 22) (.c (.d (.bool false)))⟩,⟨none,.eZ 2 (.t 23)⟩] [[],[],[],[],[],[],[],[],[],[],[],[],[],[],[],[]]) .ret) (.seq (.ops [⟨none,.bi 25 .eql (.t 6) (.c (.d (.int .i64 2)))⟩,⟨none,.eZ 24 (.t 25)⟩]) (.cond (.t 24) (.seq (.ops [⟨none,.gF 26 (.t 1) 1⟩,⟨none,.hN 27 (.t 26) 1 1 1 false⟩,⟨none,.bi 28 .eql (.t 27) (.c (.d (.str [])))⟩,⟨none,.cS 29 (.t 28)⟩,⟨some (29,true),.gF 30 (.t 1) 5⟩,⟨some (29,true),.hN 31 (.t 30) 1 5 1 false⟩,⟨some (29,true),.bi 32 .eql (.t 31) (.c (.d (.str [])))⟩,⟨none,.ei 33 (.t 29) (.t 32) (.c (.d (.bool false)))⟩,⟨none,.cS 34 (.t 33)⟩,⟨some (34,true),.gF 35 (.t 1) 6⟩,⟨some (34,true),.hN 36 (.t 35) 1 6 1 false⟩,⟨some (34,true),.mP 37 false (.t 36)⟩,⟨some (34,true),.bi 38 .eql (.t 37) (.c (.d (.int .i64 0)))⟩,⟨none,.ei 39 (.t 34) (.t 38) (.c (.d (.bool false)))⟩,⟨none,.cS 40 (.t 39)⟩,⟨some (40,true),.gF 41 (.t 1) 2⟩,⟨some (40,true),.hN 42 (.t 41) 1 2 3 true⟩,⟨some (40,true),.dH (some 43) (.c (.d (.fn 108))) [(.t 42)]⟩,⟨none,.ei 44 (.t 40) (.t 43) (.c (.d (.bool false)))⟩,⟨none,.eZ 2 (.t 44)⟩]) .ret) .skip)))))) (.seq (.ops [⟨none,.hN 46 (.t 1) 1 0 7 true⟩,⟨none,.dH (some 47) (.c (.d (.fn 280))) [(.t 46)]⟩,⟨none,.cS 45 (.t 47)⟩,⟨none,.ex 48 (.t 45) 0⟩,⟨none,.ex 49 (.t 45) 1⟩,⟨none,.kE 3 [(.d (.str [])),(.own 1 []),(.d (.int .i64 0))]⟩,⟨none,.ls (.t 3) 3 0 (.t 48) 3⟩,⟨none,.eZ 4 (.t 49)⟩]) (.seq (.any [⟨none,.cS 50 (.t 4)⟩,⟨none,.cS 51 (.t 50)⟩,⟨some (51,true),.gF 52 (.t 1) 2⟩,⟨some (51,true),.hN 53 (.t 52) 1 2 3 true⟩,⟨some (51,true),.dH (some 54) (.c (.d (.fn 186))) []⟩,⟨some (51,true),.eq 55 false true [1,1,2] (.t 53) (.t 54)⟩,⟨none,.ei 56 (.t 51) (.t 55) (.c (.d (.bool false)))⟩,⟨none,.cS 57 (.t 56)⟩,⟨some (57,true),.gF 58 (.t 1) 0⟩,⟨some (57,true),.hN 59 (.t 58) 1 0 1 false⟩,⟨some (57,true),.bi 60 .eql (.t 59) (.c (.d (.int .i64 5)))⟩,⟨some (57,true),.cS 61 (.t 60)⟩,⟨some (61,true),.gF 62 (.t 1) 5⟩,⟨some (61,true),.hN 63 (.t 62) 1 5 1 false⟩,⟨some (61,true),.bi 64 .eql (.t 63) (.c (.d (.str [])))⟩,⟨some (57,true),.ei 65 (.t 61) (.t 64) (.c (.d (.bool false)))⟩,⟨some (57,true),.cS 66 (.t 65)⟩,⟨some (66,false),.gF 67 (.t 1) 0⟩,⟨some (66,false),.hN 68 (.t 67) 1 0 1 false⟩,⟨some (66,false),.bi 69 .neq (.t 68) (.c (.d (.int .i64 5)))⟩,⟨some (66,false),.cS 70 (.t 69)⟩,⟨some (70,true),.gF 71 (.t 1) 1⟩,⟨some (70,true),.hN 72 (.t 71) 1 1 1 false⟩,⟨some (70,true),.bi 73 .eql (.t 72) (.c (.d (.str [])))⟩,⟨some (66,false),.ei 74 (.t 70) (.t 73) (.c (.d (.bool false)))⟩,⟨some (57,true),.ei 75 (.t 66) (.c (.d (.bool true))) (.t 74)⟩,⟨none,.ei 76 (.t 57) (.t 75) (.c (.d (.bool false)))⟩,⟨none,.eZ 2 (.t 76)⟩] [[],[],[],[],[],[],[],[],[],[],[],[],[],[],[],[],[],[],[],[],[],[],[],[],[],[],[],[]]) .ret)))),[.t 2]⟩
theorem VU:a7 a1.prog 279 VT:=bg {}
def VW:aX:=by
 have h:bf 284 {}=some ?v:=by conv=>lhs;cbv
 exact ?v
theorem VX:a7 a1.prog 284 VW:=bg {}
def VY:aX:=by
 have h:bf 293 {}=some ?v:=by conv=>lhs;cbv
 exact ?v
theorem VZ:a7 a1.prog 293 VY:=bg {}
def V0:aX:=by
 have h:bf 296 {}=some ?v:=by conv=>lhs;cbv
 exact ?v
theorem V1:a7 a1.prog 296 V0:=bg {}
def V2:aX:=by
 have h:bf 299 {live:=[([0,1,7,8],[])]}=some ?v:=by conv=>lhs;cbv
 exact ?v
theorem V3:a7 a1.prog 299 V2:=bg {live:=[([0,1,7,8],[])]}
def V4:aX:=by
 have h:bf 301 {}=some ?v:=by conv=>lhs;cbv
 exact ?v
theorem V5:a7 a1.prog 301 V4:=bg {}
def V6:aX:=by
 have h:bf 303 {}=some ?v:=by conv=>lhs;cbv
 exact ?v
theorem V7:a7 a1.prog 303 V6:=bg {}
def V8:aX:=by
 have h:bf 305 {}=some ?v:=by conv=>lhs;cbv
 exact ?v
theorem V9:a7 a1.prog 305 V8:=bg {}
def u9:aX:=by
 have h:bf 306 {heap:=[1,4]}=some ?v:=by conv=>lhs;cbv
 exact ?v
theorem V':a7 a1.prog 306 u9:=bg {heap:=[1,4]}
end Go.Proofs.YtmgpekpnidjfoaaGreatDoor
