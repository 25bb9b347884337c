/- Part of ranges_said. -/
import Derived.Test.YthffhbakgmemaaaGreatDoorP
set_option maxRecDepth 100000
set_option maxHeartbeats 8000000
namespace Go.Proofs.YthffhbakgmemaaaGreatDoor
open Go Go.aH
def aFq:aX:=by
 have h:bb 10 {take:=[14],live:=[([0,5,8,9,10],[])]}=some ?v:=by conv=>lhs;cbv
 exact ?v
theorem aFr:a7 a1 10 aFq:=bf {take:=[14],live:=[([0,5,8,9,10],[])]}
def YK:aX:=by
 have h:bb 15 {}=some ?v:=by conv=>lhs;cbv
 exact ?v
theorem YL:a7 a1 15 YK:=bf {}
def Ty:aX:=by
 have h:bb 17 {}=some ?v:=by conv=>lhs;cbv
 exact ?v
theorem Tz:a7 a1 17 Ty:=bf {}
def WW:aX:=by
 have h:bb 19 {}=some ?v:=by conv=>lhs;cbv
 exact ?v
theorem WX:a7 a1 19 WW:=bf {}
def TC:aX:=by
 have h:bb 21 {}=some ?v:=by conv=>lhs;cbv
 exact ?v
theorem alS:a7 a1 21 TC:=bf {}
def U8:aX:=by
 have h:bb 27 {heap:=[3]}=some ?v:=by conv=>lhs;cbv
 exact ?v
theorem Ge:a7 a1 27 U8:=bf {heap:=[3]}
def W2:aX:=by
 have h:bb 34 {live:=[([0,1,5,6],[])]}=some ?v:=by conv=>lhs;cbv
 exact ?v
theorem Ll:a7 a1 34 W2:=bf {live:=[([0,1,5,6],[])]}
def Vd:aX:=by
 have h:bb 38 {}=some ?v:=by conv=>lhs;cbv
 exact ?v
theorem Ve:a7 a1 38 Vd:=bf {}
def Vg:aX:=by
 have h:bb 41 {}=some ?v:=by conv=>lhs;cbv
 exact ?v
theorem Vh:a7 a1 41 Vg:=bf {}
def YY:aX:=by
 have h:bb 52 {take:=[22,36],live:=[([1,2,4,15,16,17],[1,2]),([1,2,29,30,31],[1,2])]}=some ?v:=by
  apply aAf;apply ma Tryz.func52;repeat (first|apply mb|apply mc|apply me|apply mf|(conv=>lhs;cbv)|rfl)
 exact ?v
theorem Ls:a7 a1 52 YY:=bf {take:=[22,36],live:=[([1,2,4,15,16,17],[1,2]),([1,2,29,30,31],[1,2])]}
def W6:aX:=by
 have h:bb 54 {}=some ?v:=by conv=>lhs;cbv
 exact ?v
theorem W7:a7 a1 54 W6:=bf {}
def YZ:aX:=by
 have h:bb 55 {live:=[([0,1,7,8],[])]}=some ?v:=by conv=>lhs;cbv
 exact ?v
theorem Y0:a7 a1 55 YZ:=bf {live:=[([0,1,7,8],[])]}
def aFs:aX:=by
 have h:bb 59 {}=some ?v:=by conv=>lhs;cbv
 exact ?v
theorem aFt:a7 a1 59 aFs:=bf {}
def Y6:aX:=by
 have h:bb 65 {heap:=[4],live:=[([0,4,10,11,12],[])],hU:=[4]}=some ?v:=by conv=>lhs;cbv
 exact ?v
theorem Lu:a7 a1 65 Y6:=bf {heap:=[4],live:=[([0,4,10,11,12],[])],hU:=[4]}
def W8:aX:=by
 have h:bb 66 {}=some ?v:=by conv=>lhs;cbv
 exact ?v
theorem Lm:a7 a1 66 W8:=bf {}
def Vs:aX:=by
 have h:bb 67 {live:=[([0,4,5,12,13,14],[])]}=some ?v:=by conv=>lhs;cbv
 exact ?v
theorem Vt:a7 a1 67 Vs:=bf {live:=[([0,4,5,12,13,14],[])]}
def Y7:aX:=by
 have h:bb 68 {take:=[21],live:=[([0,4,15,16,17],[]),([0,49,50,51],[]),([0,4,8,74,75],[])]}=some ?v:=by conv=>lhs;cbv
 exact ?v
theorem Y8:a7 a1 68 Y7:=bf {take:=[21],live:=[([0,4,15,16,17],[]),([0,49,50,51],[]),([0,4,8,74,75],[])]}
def Vu:aX:=by
 have h:bb 70 {}=some ?v:=by conv=>lhs;cbv
 exact ?v
theorem Lg:a7 a1 70 Vu:=bf {}
def TS:aX:=by
 have h:bb 73 {take:=[16],live:=[([1,2,9,10,11],[1,2])]}=some ?v:=by conv=>lhs;cbv
 exact ?v
theorem La:a7 a1 73 TS:=bf {take:=[16],live:=[([1,2,9,10,11],[1,2])]}
def W9:aX:=by
 have h:bb 74 {}=some ?v:=by conv=>lhs;cbv
 exact ?v
theorem Xa:a7 a1 74 W9:=bf {}
def TU:aX:=by
 have h:bb 89 {live:=[([0,7,8,9],[])]}=some ?v:=by conv=>lhs;cbv
 exact ?v
theorem TV:a7 a1 89 TU:=bf {live:=[([0,7,8,9],[])]}
def T2:aX:=by
 have h:bb 98 {live:=[([1,2,15,16,17],[])]}=some ?v:=by conv=>lhs;cbv
 exact ?v
theorem CQ:a7 a1 98 T2:=bf {live:=[([1,2,15,16,17],[])]}
def T3:aX:=by
 have h:bb 99 {}=some ?v:=by conv=>lhs;cbv
 exact ?v
theorem CR:a7 a1 99 T3:=bf {}
def Xr:aX:=by
 have h:bb 104 {take:=[33,22],live:=[([1,2,7,8],[])],DX:=[23]}=some ?v:=by conv=>lhs;cbv
 exact ?v
theorem Xt:a7 a1 104 Xr:=bf {take:=[33,22],live:=[([1,2,7,8],[])],DX:=[23]}
def Xu:aX:=by
 have h:bb 109 {live:=[([0,1,2,3,8],[]),([0,1,2,3,8,9],[])]}=some ?v:=by
  apply aAf;apply ma Tryz.func109;repeat (first|apply mb|apply mc|apply me|apply mf|(conv=>lhs;cbv)|rfl)
 exact ?v
theorem Xv:a7 a1 109 Xu:=bf {live:=[([0,1,2,3,8],[]),([0,1,2,3,8,9],[])]}
def T8:aX:=by
 have h:bb 117 {live:=[([0,1,4,19,20],[4])]}=some ?v:=by conv=>lhs;cbv
 exact ?v
theorem Lb:a7 a1 117 T8:=bf {live:=[([0,1,4,19,20],[4])]}
def T9:aX:=by
 have h:bb 120 {live:=[([0,1],[])]}=some ?v:=by conv=>lhs;cbv
 exact ?v
theorem alW:a7 a1 120 T9:=bf {live:=[([0,1],[])]}
def XA:aX:=by
 have h:bb 121 {take:=[11]}=some ?v:=by conv=>lhs;cbv
 exact ?v
theorem XB:a7 a1 121 XA:=bf {take:=[11]}
def XC:aX:=by
 have h:bb 122 {}=some ?v:=by conv=>lhs;cbv
 exact ?v
theorem XD:a7 a1 122 XC:=bf {}
def aFu:aX:=by
 have h:bb 130 {}=some ?v:=by conv=>lhs;cbv
 exact ?v
theorem aFv:a7 a1 130 aFu:=bf {}
def XJ:aX:=by
 have h:bb 136 {}=some ?v:=by conv=>lhs;cbv
 exact ?v
theorem XK:a7 a1 136 XJ:=bf {}
def Zx:aX:=by
 have h:bb 145 {}=some ?v:=by conv=>lhs;cbv
 exact ?v
theorem Zy:a7 a1 145 Zx:=bf {}
def aFw:aX:=by
 have h:bb 152 {live:=[([0,3],[]),([0,3,4,5],[])],uV:=[2]}=some ?v:=by conv=>lhs;cbv
 exact ?v
theorem aDI:a7 a1 152 aFw:=bf {live:=[([0,3],[]),([0,3,4,5],[])],uV:=[2]}
def ZE:aX:=by
 have h:bb 156 {own:=true}=some ?v:=by conv=>lhs;cbv
 exact ?v
theorem Ly:a7 a1 156 ZE:=bf {own:=true}
def XS:aX:=by
 have h:bb 157 {live:=[([3,7,8,9],[])]}=some ?v:=by conv=>lhs;cbv
 exact ?v
theorem q7:a7 a1 157 XS:=bf {live:=[([3,7,8,9],[])]}
def Wa:aX:=by
 have h:bb 173 {heap:=[1]}=some ?v:=by conv=>lhs;cbv
 exact ?v
theorem Wb:a7 a1 173 Wa:=bf {heap:=[1]}
def ZN:aX:=by
 have h:bb 178 {live:=[([0,1,5,6],[])]}=some ?v:=by conv=>lhs;cbv
 exact ?v
theorem ZO:a7 a1 178 ZN:=bf {live:=[([0,1,5,6],[])]}
def Us:aX:=by
 have h:bb 179 {}=some ?v:=by conv=>lhs;cbv
 exact ?v
theorem alZ:a7 a1 179 Us:=bf {}
def X3:aX:=by
 have h:bb 186 {live:=[([1,2,15,16,17],[])]}=some ?v:=by conv=>lhs;cbv
 exact ?v
theorem X4:a7 a1 186 X3:=bf {live:=[([1,2,15,16,17],[])]}
def Wc:aX:=by
 have h:bb 190 {live:=[([0,1,12,13],[])]}=some ?v:=by conv=>lhs;cbv
 exact ?v
theorem Wd:a7 a1 190 Wc:=bf {live:=[([0,1,12,13],[])]}
def ZW:aX:=by
 have h:bb 191 {live:=[([0,1,12,13],[])]}=some ?v:=by conv=>lhs;cbv
 exact ?v
theorem ZX:a7 a1 191 ZW:=bf {live:=[([0,1,12,13],[])]}
def X5:aX:=by
 have h:bb 194 {}=some ?v:=by conv=>lhs;cbv
 exact ?v
theorem Lr:a7 a1 194 X5:=bf {}
def Uz:aX:=by
 have h:bb 198 {live:=[([0,1,7,8],[])]}=some ?v:=by conv=>lhs;cbv
 exact ?v
theorem UA:a7 a1 198 Uz:=bf {live:=[([0,1,7,8],[])]}
def X6:aX:=by
 have h:bb 206 {}=some ?v:=by conv=>lhs;cbv
 exact ?v
theorem amb:a7 a1 206 X6:=bf {}
def UF:aX:=by
 have h:bb 207 {live:=[([0,1,2,3,10],[])]}=some ?v:=by
  apply aAf;apply ma Tryz.func207;repeat (first|apply mb|apply mc|apply me|apply mf|(conv=>lhs;cbv)|rfl)
 exact ?v
theorem al0:a7 a1 207 UF:=bf {live:=[([0,1,2,3,10],[])]}
def Wm:aX:=by
 have h:bb 210 {}=some ?v:=by conv=>lhs;cbv
 exact ?v
theorem Wn:a7 a1 210 Wm:=bf {}
def UH:aX:=by
 have h:bb 213 {}=some ?v:=by conv=>lhs;cbv
 exact ?v
theorem UI:a7 a1 213 UH:=bf {}
def Wr:aX:=by
 have h:bb 216 {take:=[3,14]}=some ?v:=by conv=>lhs;cbv
 exact ?v
theorem Ws:a7 a1 216 Wr:=bf {take:=[3,14]}
def Z2:aX:=by
 have h:bb 224 {take:=[107],live:=[([1,5,101,102,103],[1])]}=some ?v:=by
  apply aAf;apply ma Tryz.func224;repeat (first|apply mb|apply mc|apply me|apply mf|(conv=>lhs;cbv)|rfl)
 exact ?v
theorem CW:a7 a1 224 Z2:=bf {take:=[107],live:=[([1,5,101,102,103],[1])]}
def aFx:aX:=by
 have h:bb 231 {}=some ?v:=by conv=>lhs;cbv
 exact ?v
theorem aFy:a7 a1 231 aFx:=bf {}
def aFz:aX:=by
 have h:bb 238 {live:=[([0,1,2,3,8,9],[])]}=some ?v:=by
  apply aAf;apply ma Tryz.func238;repeat (first|apply mb|apply mc|apply me|apply mf|(conv=>lhs;cbv)|rfl)
 exact ?v
theorem aGh:a7 a1 238 aFz:=bf {live:=[([0,1,2,3,8,9],[])]}
def aFA:aX:=by
 have h:bb 246 {take:=[31],live:=[([0,3,9,10,11],[]),([6,25,26,27],[])]}=some ?v:=by conv=>lhs;cbv
 exact ?v
theorem aDv:a7 a1 246 aFA:=bf {take:=[31],live:=[([0,3,9,10,11],[]),([6,25,26,27],[])]}
def aFB:aX:=by
 have h:bb 257 {}=some ?v:=by conv=>lhs;cbv
 exact ?v
theorem aDw:a7 a1 257 aFB:=bf {}
def aFC:aX:=by
 have h:bb 260 {take:=[36]}=some ?v:=by conv=>lhs;cbv
 exact ?v
theorem aFD:a7 a1 260 aFC:=bf {take:=[36]}
def aFE:aX:=by
 have h:bb 266 {}=some ?v:=by conv=>lhs;cbv
 exact ?v
theorem aFF:a7 a1 266 aFE:=bf {}
def Yq:aX:=by
 have h:bb 280 {}=some ?v:=by conv=>lhs;cbv
 exact ?v
theorem Yr:a7 a1 280 Yq:=bf {}
def UU:aX:=by
 have h:bb 285 {live:=[([3,7,8,9],[])]}=some ?v:=by conv=>lhs;cbv
 exact ?v
theorem UW:a7 a1 285 UU:=bf {live:=[([3,7,8,9],[])]}
def aFG:aX:=by
 have h:bb 290 {heap:=[3]}=some ?v:=by conv=>lhs;cbv
 exact ?v
theorem aFH:a7 a1 290 aFG:=bf {heap:=[3]}
def WN:aX:=by
 have h:bb 293 {}=some ?v:=by conv=>lhs;cbv
 exact ?v
theorem WO:a7 a1 293 WN:=bf {}
def aFI:aX:=by
 have h:bb 313 {live:=[([0,1,7,8],[])]}=some ?v:=by conv=>lhs;cbv
 exact ?v
theorem aFJ:a7 a1 313 aFI:=bf {live:=[([0,1,7,8],[])]}
def aFK:aX:=by
 have h:bb 315 {}=some ?v:=by conv=>lhs;cbv
 exact ?v
theorem aFL:a7 a1 315 aFK:=bf {}
def aFM:aX:=by
 have h:bb 318 {}=some ?v:=by conv=>lhs;cbv
 exact ?v
theorem aFN:a7 a1 318 aFM:=bf {}
def aFO:aX:=by
 have h:bb 344 {}=some ?v:=by conv=>lhs;cbv
 exact ?v
theorem aFP:a7 a1 344 aFO:=bf {}
def aDn:aX:=by
 have h:bb 347 {heap:=[1,4]}=some ?v:=by conv=>lhs;cbv
 exact ?v
theorem aFQ:a7 a1 347 aDn:=bf {heap:=[1,4]}
def aFR:aX:=by
 have h:bb 350 {}=some ?v:=by conv=>lhs;cbv
 exact ?v
theorem aFS:a7 a1 350 aFR:=bf {}
end Go.Proofs.YthffhbakgmemaaaGreatDoor
