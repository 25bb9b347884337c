/- Part of graphs_said. -/
import Derived.Test.YtmgpekpnidjfoaaGreatDoorP
set_option maxRecDepth 100000
set_option maxHeartbeats 8000000
namespace Go.Proofs.YtmgpekpnidjfoaaGreatDoor
open Go Go.aH
def WT:aX:=by
 have h:bb 5 {}=some ?v:=by conv=>lhs;cbv
 exact ?v
theorem al8:a7 a1 5 WT:=bf {}
def Tr:aX:=by
 have h:bb 11 {take:=[17,22,27],live:=[([2,3,4,7,8,9],[])]}=some ?v:=by conv=>lhs;cbv
 exact ?v
theorem Ts:a7 a1 11 Tr:=bf {take:=[17,22,27],live:=[([2,3,4,7,8,9],[])]}
def Tt:aX:=by
 have h:bb 13 {}=some ?v:=by conv=>lhs;cbv
 exact ?v
theorem Tv:a7 a1 13 Tt:=bf {}
def YK:aX:=by
 have h:bb 15 {}=some ?v:=by conv=>lhs;cbv
 exact ?v
theorem YL:a7 a1 15 YK:=bf {}
def U6:aX:=by
 have h:bb 20 {take:=[17],heap:=[2,3,4,6,7],live:=[([2,3,6,33,34,35],[])]}=some ?v:=by conv=>lhs;cbv
 exact ?v
theorem U7:a7 a1 20 U6:=bf {take:=[17],heap:=[2,3,4,6,7],live:=[([2,3,6,33,34,35],[])]}
def TC:aX:=by
 have h:bb 21 {}=some ?v:=by conv=>lhs;cbv
 exact ?v
theorem alS:a7 a1 21 TC:=bf {}
def TE:aX:=by
 have h:bb 23 {take:=[15],live:=[([3,9,10,11],[])]}=some ?v:=by conv=>lhs;cbv
 exact ?v
theorem alU:a7 a1 23 TE:=bf {take:=[15],live:=[([3,9,10,11],[])]}
def YM:aX:=by
 have h:bb 25 {heap:=[18]}=some ?v:=by conv=>lhs;cbv
 exact ?v
theorem YN:a7 a1 25 YM:=bf {heap:=[18]}
def TF:aX:=by
 have h:bb 29 {take:=[20,56],live:=[([1,3,14,15,16],[1]),([1,6,50,51,52],[1])],objs:=[44,71,83]}=some ?v:=by
  apply aAf;apply ma Tryz.func29;repeat (first|apply mb|apply mc|apply me|apply mf|(conv=>lhs;cbv)|rfl)
 exact ?v
theorem Gc:a7 a1 29 TF:=bf {take:=[20,56],live:=[([1,3,14,15,16],[1]),([1,6,50,51,52],[1])],objs:=[44,71,83]}
def W2:aX:=by
 have h:bb 34 {own:=true}=some ?v:=by conv=>lhs;cbv
 exact ?v
theorem Ll:a7 a1 34 W2:=bf {own:=true}
def Vc:aX:=by
 have h:bb 35 {}=some ?v:=by conv=>lhs;cbv
 exact ?v
theorem Le:a7 a1 35 Vc:=bf {}
def YP:aX:=by
 have h:bb 36 {}=some ?v:=by conv=>lhs;cbv
 exact ?v
theorem YQ:a7 a1 36 YP:=bf {}
def TG:aX:=by
 have h:bb 37 {}=some ?v:=by conv=>lhs;cbv
 exact ?v
theorem TH:a7 a1 37 TG:=bf {}
def TI:aX:=by
 have h:bb 40 {}=some ?v:=by conv=>lhs;cbv
 exact ?v
theorem TJ:a7 a1 40 TI:=bf {}
def YR:aX:=by
 have h:bb 43 {}=some ?v:=by conv=>lhs;cbv
 exact ?v
theorem ame:a7 a1 43 YR:=bf {}
def TP:aX:=by
 have h:bb 57 {}=some ?v:=by conv=>lhs;cbv
 exact ?v
theorem TQ:a7 a1 57 TP:=bf {}
def K9:aX:=by
 have h:bb 62 {objs:=[43]}=some ?v:=by conv=>lhs;cbv
 exact ?v
theorem TR:a7 a1 62 K9:=bf {objs:=[43]}
def Vs:aX:=by
 have h:bb 67 {live:=[([0,1,12,13],[])]}=some ?v:=by conv=>lhs;cbv
 exact ?v
theorem Vt:a7 a1 67 Vs:=bf {live:=[([0,1,12,13],[])]}
def Zc:aX:=by
 have h:bb 75 {live:=[([1,2,7,8],[])]}=some ?v:=by conv=>lhs;cbv
 exact ?v
theorem Zd:a7 a1 75 Zc:=bf {live:=[([1,2,7,8],[])]}
def Vz:aX:=by
 have h:bb 77 {live:=[([3,15,16,17],[])]}=some ?v:=by conv=>lhs;cbv
 exact ?v
theorem VA:a7 a1 77 Vz:=bf {live:=[([3,15,16,17],[])]}
def TT:aX:=by
 have h:bb 80 {take:=[22,36],live:=[([1,2,4,15,16,17],[1,2]),([1,2,29,30,31],[1,2])]}=some ?v:=by
  apply aAf;apply ma Tryz.func80;repeat (first|apply mb|apply mc|apply me|apply mf|(conv=>lhs;cbv)|rfl)
 exact ?v
theorem alV:a7 a1 80 TT:=bf {take:=[22,36],live:=[([1,2,4,15,16,17],[1,2]),([1,2,29,30,31],[1,2])]}
def Zf:aX:=by
 have h:bb 91 {live:=[([0,1,4,19,20],[4])]}=some ?v:=by conv=>lhs;cbv
 exact ?v
theorem Zg:a7 a1 91 Zf:=bf {live:=[([0,1,4,19,20],[4])]}
def VJ:aX:=by
 have h:bb 97 {take:=[15]}=some ?v:=by conv=>lhs;cbv
 exact ?v
theorem VK:a7 a1 97 VJ:=bf {take:=[15]}
def Xn:aX:=by
 have h:bb 100 {live:=[([0,2,3],[2,3])]}=some ?v:=by conv=>lhs;cbv
 exact ?v
theorem Xo:a7 a1 100 Xn:=bf {live:=[([0,2,3],[2,3])]}
def Xp:aX:=by
 have h:bb 101 {}=some ?v:=by conv=>lhs;cbv
 exact ?v
theorem Xq:a7 a1 101 Xp:=bf {}
def T4:aX:=by
 have h:bb 107 {objs:=[21,27,34,41,50,55,69]}=some ?v:=by conv=>lhs;cbv
 exact ?v
theorem T5:a7 a1 107 T4:=bf {objs:=[21,27,34,41,50,55,69]}
def VQ:aX:=by
 have h:bb 114 {live:=[([0,1,12,13],[])]}=some ?v:=by conv=>lhs;cbv
 exact ?v
theorem VR:a7 a1 114 VQ:=bf {live:=[([0,1,12,13],[])]}
def VS:aX:=by
 have h:bb 118 {live:=[([0,1,4,10,11],[]),([0,10,13],[]),([0,2,4,14,15],[]),([0,14,17],[]),([0,1,2,3,4,18,19,20,21,22],[])]}=some ?v:=by
  apply aAf;apply ma Tryz.func118;repeat (first|apply mb|apply mc|apply me|apply mf|(conv=>lhs;cbv)|rfl)
 exact ?v
theorem VT:a7 a1 118 VS:=bf {live:=[([0,1,4,10,11],[]),([0,10,13],[]),([0,2,4,14,15],[]),([0,14,17],[]),([0,1,2,3,4,18,19,20,21,22],[])]}
def XE:aX:=by
 have h:bb 125 {}=some ?v:=by conv=>lhs;cbv
 exact ?v
theorem Ln:a7 a1 125 XE:=bf {}
def Ud:aX:=by
 have h:bb 132 {}=some ?v:=by conv=>lhs;cbv
 exact ?v
theorem Ue:a7 a1 132 Ud:=bf {}
def XJ:aX:=by
 have h:bb 136 {}=some ?v:=by conv=>lhs;cbv
 exact ?v
theorem XK:a7 a1 136 XJ:=bf {}
def XP:aX:=by
 have h:bb 140 {rK:=[6]}=some ?v:=by conv=>lhs;cbv
 exact ?v
theorem Lp:a7 a1 140 XP:=bf {rK:=[6]}
def XR:aX:=by
 have h:bb 149 {}=some ?v:=by conv=>lhs;cbv
 exact ?v
theorem ama:a7 a1 149 XR:=bf {}
def ZC:aX:=by
 have h:bb 154 {}=some ?v:=by conv=>lhs;cbv
 exact ?v
theorem ZD:a7 a1 154 ZC:=bf {}
def ZF:aX:=by
 have h:bb 158 {}=some ?v:=by conv=>lhs;cbv
 exact ?v
theorem ZG:a7 a1 158 ZF:=bf {}
def V4:aX:=by
 have h:bb 164 {take:=[25],live:=[([1,3,8,9,10],[1])]}=some ?v:=by conv=>lhs;cbv
 exact ?v
theorem V5:a7 a1 164 V4:=bf {take:=[25],live:=[([1,3,8,9,10],[1])]}
def ZH:aX:=by
 have h:bb 166 {take:=[13],live:=[([3,7,8,9],[])]}=some ?v:=by conv=>lhs;cbv
 exact ?v
theorem ZI:a7 a1 166 ZH:=bf {take:=[13],live:=[([3,7,8,9],[])]}
def Wa:aX:=by
 have h:bb 173 {live:=[([0,1,7,8],[])]}=some ?v:=by conv=>lhs;cbv
 exact ?v
theorem Wb:a7 a1 173 Wa:=bf {live:=[([0,1,7,8],[])]}
def XZ:aX:=by
 have h:bb 175 {live:=[([0,1,7,8],[])]}=some ?v:=by conv=>lhs;cbv
 exact ?v
theorem X0:a7 a1 175 XZ:=bf {live:=[([0,1,7,8],[])]}
def Lz:aX:=by
 have h:bb 180 {live:=[([0,5,6,7],[])]}=some ?v:=by conv=>lhs;cbv
 exact ?v
theorem ZP:a7 a1 180 Lz:=bf {live:=[([0,5,6,7],[])]}
def ZS:aX:=by
 have h:bb 187 {take:=[20],live:=[([3,4,8,9,10],[])]}=some ?v:=by conv=>lhs;cbv
 exact ?v
theorem ZT:a7 a1 187 ZS:=bf {take:=[20],live:=[([3,4,8,9,10],[])]}
def Wc:aX:=by
 have h:bb 190 {}=some ?v:=by conv=>lhs;cbv
 exact ?v
theorem Wd:a7 a1 190 Wc:=bf {}
def Wm:aX:=by
 have h:bb 210 {heap:=[2]}=some ?v:=by conv=>lhs;cbv
 exact ?v
theorem Wn:a7 a1 210 Wm:=bf {heap:=[2]}
def UG:aX:=by
 have h:bb 212 {}=some ?v:=by conv=>lhs;cbv
 exact ?v
theorem al1:a7 a1 212 UG:=bf {}
def UJ:aX:=by
 have h:bb 214 {take:=[35],live:=[([1,2,6,19,20,21],[2])]}=some ?v:=by conv=>lhs;cbv
 exact ?v
theorem UK:a7 a1 214 UJ:=bf {take:=[35],live:=[([1,2,6,19,20,21],[2])]}
def Z2:aX:=by
 have h:bb 224 {}=some ?v:=by conv=>lhs;cbv
 exact ?v
theorem CW:a7 a1 224 Z2:=bf {}
def Ya:aX:=by
 have h:bb 227 {take:=[36]}=some ?v:=by conv=>lhs;cbv
 exact ?v
theorem Yb:a7 a1 227 Ya:=bf {take:=[36]}
def Wy:aX:=by
 have h:bb 235 {live:=[([0,3,4,5],[])]}=some ?v:=by conv=>lhs;cbv
 exact ?v
theorem Wz:a7 a1 235 Wy:=bf {live:=[([0,3,4,5],[])]}
def Yf:aX:=by
 have h:bb 251 {live:=[([0,1,2,11,12,13],[])]}=some ?v:=by conv=>lhs;cbv
 exact ?v
theorem amd:a7 a1 251 Yf:=bf {live:=[([0,1,2,11,12,13],[])]}
def WC:aX:=by
 have h:bb 252 {}=some ?v:=by conv=>lhs;cbv
 exact ?v
theorem al6:a7 a1 252 WC:=bf {}
def Yi:aX:=by
 have h:bb 259 {}=some ?v:=by conv=>lhs;cbv
 exact ?v
theorem Yj:a7 a1 259 Yi:=bf {}
def Ym:aX:=by
 have h:bb 264 {}=some ?v:=by conv=>lhs;cbv
 exact ?v
theorem Yn:a7 a1 264 Ym:=bf {}
def WG:aX:=by
 have h:bb 277 {live:=[([3,6,7,8],[])]}=some ?v:=by conv=>lhs;cbv
 exact ?v
theorem al7:a7 a1 277 WG:=bf {live:=[([3,6,7,8],[])]}
def WH:aX:=⟨(.seq (.ops [⟨none,.fV 1 (.t 0) 7⟩,⟨none,.e2 2 (.c (.d (.bool false)))⟩]) (.seq (.seq (.ops [⟨none,.gK 5 (.t 1) 0⟩,⟨none,.hX 6 (.t 5) 1 0 1 false⟩]) (.block 0 (.seq (.ops [⟨none,.bi 8 .eql (.t 6) (.c (.d (.int .i64 1)))⟩,⟨none,.e2 7 (.t 8)⟩]) (.cond (.t 7) (.seq (.any [⟨none,.gK 9 (.t 1) 5⟩,⟨none,.hX 10 (.t 9) 1 5 1 false⟩,⟨none,.bi 11 .eql (.t 10) (.c (.d (.str [])))⟩,⟨none,.cV 12 (.t 11)⟩,⟨some (12,true),.gK 13 (.t 1) 6⟩,⟨some (12,true),.hX 14 (.t 13) 1 6 1 false⟩,⟨some (12,true),.ni 15 false (.t 14)⟩,⟨some (12,true),.bi 16 .eql (.t 15) (.c (.d (.int .i64 0)))⟩,⟨none,.dU 17 (.t 12) (.t 16) (.c (.d (.bool false)))⟩,⟨none,.cV 18 (.t 17)⟩,⟨some (18,true),.gK 19 (.t 1) 2⟩,⟨some (18,true),.hX 20 (.t 19) 1 2 3 true⟩,⟨some (18,true),.dH (some 21) (.c (.d (.fn 186))) []⟩,⟨some (18,true),.eq 22 false true [1,1,2] (.t 20) (.t 21)⟩,⟨none,.dU 23 (.t 18) (.t 22) (.c (.d (.bool false)))⟩,⟨none,.e2 2 (.t 23)⟩] [[],[],[],[],[],[],[],[],[],[],[],[],[],[],[],[]]) .ret) (.seq (.ops [⟨none,.bi 25 .eql (.t 6) (.c (.d (.int .i64 2)))⟩,⟨none,.e2 24 (.t 25)⟩]) (.cond (.t 24) (.seq (.ops [⟨none,.gK 26 (.t 1) 1⟩,⟨none,.hX 27 (.t 26) 1 1 1 false⟩,⟨none,.bi 28 .eql (.t 27) (.c (.d (.str [])))⟩,⟨none,.cV 29 (.t 28)⟩,⟨some (29,true),.gK 30 (.t 1) 5⟩,⟨some (29,true),.hX 31 (.t 30) 1 5 1 false⟩,⟨some (29,true),.bi 32 .eql (.t 31) (.c (.d (.str [])))⟩,⟨none,.dU 33 (.t 29) (.t 32) (.c (.d (.bool false)))⟩,⟨none,.cV 34 (.t 33)⟩,⟨some (34,true),.gK 35 (.t 1) 6⟩,⟨some (34,true),.hX 36 (.t 35) 1 6 1 false⟩,⟨some (34,true),.ni 37 false (.t 36)⟩,⟨some (34,true),.bi 38 .eql (.t 37) (.c (.d (.int .i64 0)))⟩,⟨none,.dU 39 (.t 34) (.t 38) (.c (.d (.bool false)))⟩,⟨none,.cV 40 (.t 39)⟩,⟨some (40,true),.gK 41 (.t 1) 2⟩,⟨some (40,true),.hX 42 (.t 41) 1 2 3 true⟩,⟨some (40,true),.dH (some 43) (.c (.d (.fn 108))) [(.t 42)]⟩,⟨none,.dU 44 (.t 40) (.t 43) (.c (.d (.bool false)))⟩,⟨none,.e2 2 (.t 44)⟩]) .ret) .skip)))))) (.seq (.ops [⟨none,.hX 46 (.t 1) 1 0 7 true⟩,⟨none,.dH (some 47) (.c (.d (.fn 280))) [(.t 46)]⟩,⟨none,.cV 45 (.t 47)⟩,⟨none,.ex 48 (.t 45) 0⟩,⟨none,.ex 49 (.t 45) 1⟩,⟨none,.kN 3 [(.d (.str [])),(.own 1 []),(.d (.int .i64 0))]⟩,⟨none,.ls (.t 3) 3 0 (.t 48) 3⟩,⟨none,.e2 4 (.t 49)⟩]) (.seq (.any [⟨none,.cV 50 (.t 4)⟩,⟨none,.cV 51 (.t 50)⟩,⟨some (51,true),.gK 52 (.t 1) 2⟩,⟨some (51,true),.hX 53 (.t 52) 1 2 3 true⟩,⟨some (51,true),.dH (some 54) (.c (.d (.fn 186))) []⟩,⟨some (51,true),.eq 55 false true [1,1,2] (.t 53) (.t 54)⟩,⟨none,.dU 56 (.t 51) (.t 55) (.c (.d (.bool false)))⟩,⟨none,.cV 57 (.t 56)⟩,⟨some (57,true),.gK 58 (.t 1) 0⟩,⟨some (57,true),.hX 59 (.t 58) 1 0 1 false⟩,⟨some (57,true),.bi 60 .eql (.t 59) (.c (.d (.int .i64 5)))⟩,⟨some (57,true),.cV 61 (.t 60)⟩,⟨some (61,true),.gK 62 (.t 1) 5⟩,⟨some (61,true),.hX 63 (.t 62) 1 5 1 false⟩,⟨some (61,true),.bi 64 .eql (.t 63) (.c (.d (.str [])))⟩,⟨some (57,true),.dU 65 (.t 61) (.t 64) (.c (.d (.bool false)))⟩,⟨some (57,true),.cV 66 (.t 65)⟩,⟨some (66,false),.gK 67 (.t 1) 0⟩,⟨some (66,false),.hX 68 (.t 67) 1 0 1 false⟩,⟨some (66,false),.bi 69 .neq (.t 68) (.c (.d (.int .i64 5)))⟩,⟨some (66,false),.cV 70 (.t 69)⟩,⟨some (70,true),.gK 71 (.t 1) 1⟩,⟨some (70,true),.hX 72 (.t 71) 1 1 1 false⟩,⟨some (70,true),.bi 73 .eql (.t 72) (.c (.d (.str [])))⟩,⟨some (66,false),.dU 74 (.t 70) (.t 73) (.c (.d (.bool false)))⟩,⟨some (57,true),.dU 75 (.t 66) (.c (.d (.bool true))) (.t 74)⟩,⟨none,.dU 76 (.t 57) (.t 75) (.c (.d (.bool false)))⟩,⟨none,.e2 2 (.t 76)⟩] [[],[],[],[],[],[],[],[],[],[],[],[],[],[],[],[],[],[],[],[],[],[],[],[],[],[],[],[]]) .ret)))),[.t 2]⟩
theorem WI:a7 a1 279 WH:=bf {}
def Yq:aX:=by
 have h:bb 280 {heap:=[4]}=some ?v:=by
  apply aAf;apply ma Tryz.func280;repeat (first|apply mb|apply mc|apply me|apply mf|(conv=>lhs;cbv)|rfl)
 exact ?v
theorem Yr:a7 a1 280 Yq:=bf {heap:=[4]}
def Ys:aX:=by
 have h:bb 282 {live:=[([0,1,7,8],[])]}=some ?v:=by conv=>lhs;cbv
 exact ?v
theorem Yt:a7 a1 282 Ys:=bf {live:=[([0,1,7,8],[])]}
def UU:aX:=by
 have h:bb 285 {}=some ?v:=by conv=>lhs;cbv
 exact ?v
theorem UW:a7 a1 285 UU:=bf {}
def Yw:aX:=by
 have h:bb 292 {}=some ?v:=by conv=>lhs;cbv
 exact ?v
theorem Yx:a7 a1 292 Yw:=bf {}
def UX:aX:=by
 have h:bb 295 {}=some ?v:=by conv=>lhs;cbv
 exact ?v
theorem al2:a7 a1 295 UX:=bf {}
def U0:aX:=by
 have h:bb 298 {}=some ?v:=by conv=>lhs;cbv
 exact ?v
theorem U1:a7 a1 298 U0:=bf {}
def aai:aX:=by
 have h:bb 300 {}=some ?v:=by conv=>lhs;cbv
 exact ?v
theorem aaj:a7 a1 300 aai:=bf {}
def Yy:aX:=by
 have h:bb 304 {}=some ?v:=by conv=>lhs;cbv
 exact ?v
theorem Yz:a7 a1 304 Yy:=bf {}
def YC:aX:=by
 have h:bb 309 {}=some ?v:=by conv=>lhs;cbv
 exact ?v
theorem YD:a7 a1 309 YC:=bf {}
end Go.Proofs.YtmgpekpnidjfoaaGreatDoor
