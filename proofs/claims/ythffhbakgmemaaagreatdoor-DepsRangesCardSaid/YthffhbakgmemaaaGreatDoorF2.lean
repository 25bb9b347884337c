/- Part of ranges_said. -/
import Derived.Test.YthffhbakgmemaaaGreatDoorP
set_option maxRecDepth 100000
set_option maxHeartbeats 8000000
namespace Go.Proofs.YthffhbakgmemaaaGreatDoor
open Go Go.aH
def U6:aX:=by
 have h:bb 20 {}=some ?v:=by conv=>lhs;cbv
 exact ?v
theorem U7:a7 a1 20 U6:=bf {}
def TD:aX:=by
 have h:bb 22 {take:=[16],live:=[([0,5,10,11,12],[])]}=some ?v:=by conv=>lhs;cbv
 exact ?v
theorem alT:a7 a1 22 TD:=bf {take:=[16],live:=[([0,5,10,11,12],[])]}
def YM:aX:=by
 have h:bb 25 {}=some ?v:=by conv=>lhs;cbv
 exact ?v
theorem YN:a7 a1 25 YM:=bf {}
def aEm:aX:=by
 have h:bb 28 {}=some ?v:=by conv=>lhs;cbv
 exact ?v
theorem aEn:a7 a1 28 aEm:=bf {}
def aEo:aX:=by
 have h:bb 30 {take:=[14],live:=[([0,5,8,9,10],[])]}=some ?v:=by conv=>lhs;cbv
 exact ?v
theorem aEp:a7 a1 30 aEo:=bf {take:=[14],live:=[([0,5,8,9,10],[])]}
def W0:aX:=by
 have h:bb 32 {}=some ?v:=by conv=>lhs;cbv
 exact ?v
theorem W1:a7 a1 32 W0:=bf {}
def YR:aX:=by
 have h:bb 43 {}=some ?v:=by conv=>lhs;cbv
 exact ?v
theorem ame:a7 a1 43 YR:=bf {}
def aEq:aX:=by
 have h:bb 46 {take:=[51,68,92],heap:=[36],live:=[([0,2,37,38,39],[]),([0,2,105,106,107],[])],objs:=[105,55],rK:=[99],uW:=[56,85]}=some ?v:=by
  apply aAf;apply ma Tryz.func46;repeat (first|apply mb|apply mc|apply me|apply mf|(conv=>lhs;cbv)|rfl)
 exact ?v
theorem aEr:a7 a1 46 aEq:=bf {take:=[51,68,92],heap:=[36],live:=[([0,2,37,38,39],[]),([0,2,105,106,107],[])],objs:=[105,55],rK:=[99],uW:=[56,85]}
def Vk:aX:=by
 have h:bb 48 {}=some ?v:=by conv=>lhs;cbv
 exact ?v
theorem Vl:a7 a1 48 Vk:=bf {}
def TM:aX:=by
 have h:bb 50 {}=some ?v:=by conv=>lhs;cbv
 exact ?v
theorem TN:a7 a1 50 TM:=bf {}
def W4:aX:=by
 have h:bb 53 {live:=[([0,1,7,8],[])]}=some ?v:=by conv=>lhs;cbv
 exact ?v
theorem W5:a7 a1 53 W4:=bf {live:=[([0,1,7,8],[])]}
def Y2:aX:=by
 have h:bb 63 {}=some ?v:=by
  apply aAf;apply ma Tryz.func63;repeat (first|apply mb|apply mc|apply me|apply mf|(conv=>lhs;cbv)|rfl)
 exact ?v
theorem Y3:a7 a1 63 Y2:=bf {}
def Y9:aX:=by
 have h:bb 69 {take:=[50],live:=[([0,18,19,20],[]),([0,5,6,7,18,19,20,37,38,39],[])]}=some ?v:=by
  apply aAf;apply ma Tryz.func69;repeat (first|apply mb|apply mc|apply me|apply mf|(conv=>lhs;cbv)|rfl)
 exact ?v
theorem Y':a7 a1 69 Y9:=bf {take:=[50],live:=[([0,18,19,20],[]),([0,5,6,7,18,19,20,37,38,39],[])]}
def Vv:aX:=by
 have h:bb 71 {}=some ?v:=by conv=>lhs;cbv
 exact ?v
theorem Vw:a7 a1 71 Vv:=bf {}
def Vx:aX:=by
 have h:bb 76 {}=some ?v:=by conv=>lhs;cbv
 exact ?v
theorem Vy:a7 a1 76 Vx:=bf {}
def Ze:aX:=by
 have h:bb 78 {live:=[([0,1,2,3,8],[]),([0,1,2,3,8,9],[])]}=some ?v:=by
  apply aAf;apply ma Tryz.func78;repeat (first|apply mb|apply mc|apply me|apply mf|(conv=>lhs;cbv)|rfl)
 exact ?v
theorem Lv:a7 a1 78 Ze:=bf {live:=[([0,1,2,3,8],[]),([0,1,2,3,8,9],[])]}
def VF:aX:=by
 have h:bb 92 {}=some ?v:=by conv=>lhs;cbv
 exact ?v
theorem VG:a7 a1 92 VF:=bf {}
def VH:aX:=by
 have h:bb 93 {}=some ?v:=by conv=>lhs;cbv
 exact ?v
theorem VI:a7 a1 93 VH:=bf {}
def T0:aX:=by
 have h:bb 96 {take:=[20,56],live:=[([1,3,14,15,16],[1]),([1,6,50,51,52],[1])],objs:=[44,71,83]}=some ?v:=by
  apply aAf;apply ma Tryz.func96;repeat (first|apply mb|apply mc|apply me|apply mf|(conv=>lhs;cbv)|rfl)
 exact ?v
theorem T1:a7 a1 96 T0:=bf {take:=[20,56],live:=[([1,3,14,15,16],[1]),([1,6,50,51,52],[1])],objs:=[44,71,83]}
def aEs:aX:=by
 have h:bb 103 {take:=[74],heap:=[30,6],live:=[([6,31,32,33],[]),([6,7,31,32,33,57,58,59],[])]}=some ?v:=by
  apply aAf;apply ma Tryz.func103;repeat (first|apply mb|apply mc|apply me|apply mf|(conv=>lhs;cbv)|rfl)
 exact ?v
theorem aEt:a7 a1 103 aEs:=bf {take:=[74],heap:=[30,6],live:=[([6,31,32,33],[]),([6,7,31,32,33,57,58,59],[])]}
def Zh:aX:=by
 have h:bb 105 {}=some ?v:=by conv=>lhs;cbv
 exact ?v
theorem Zi:a7 a1 105 Zh:=bf {}
def Xy:aX:=by
 have h:bb 116 {live:=[([0,1],[])]}=some ?v:=by conv=>lhs;cbv
 exact ?v
theorem Xz:a7 a1 116 Xy:=bf {live:=[([0,1],[])]}
def VS:aX:=by
 have h:bb 118 {}=some ?v:=by conv=>lhs;cbv
 exact ?v
theorem VT:a7 a1 118 VS:=bf {}
def T':aX:=by
 have h:bb 123 {take:=[15]}=some ?v:=by conv=>lhs;cbv
 exact ?v
theorem alX:a7 a1 123 T':=bf {take:=[15]}
def XE:aX:=by
 have h:bb 125 {}=some ?v:=by conv=>lhs;cbv
 exact ?v
theorem Ln:a7 a1 125 XE:=bf {}
def VU:aX:=by
 have h:bb 127 {}=some ?v:=by conv=>lhs;cbv
 exact ?v
theorem Lk:a7 a1 127 VU:=bf {}
def Ud:aX:=by
 have h:bb 132 {}=some ?v:=by conv=>lhs;cbv
 exact ?v
theorem Ue:a7 a1 132 Ud:=bf {}
def Uf:aX:=by
 have h:bb 133 {objs:=[43]}=some ?v:=by conv=>lhs;cbv
 exact ?v
theorem Ug:a7 a1 133 Uf:=bf {objs:=[43]}
def VW:aX:=by
 have h:bb 135 {}=some ?v:=by conv=>lhs;cbv
 exact ?v
theorem VX:a7 a1 135 VW:=bf {}
def Zz:aX:=by
 have h:bb 146 {}=some ?v:=by conv=>lhs;cbv
 exact ?v
theorem ZA:a7 a1 146 Zz:=bf {}
def XR:aX:=by
 have h:bb 149 {}=some ?v:=by conv=>lhs;cbv
 exact ?v
theorem ama:a7 a1 149 XR:=bf {}
def ZB:aX:=by
 have h:bb 151 {}=some ?v:=by conv=>lhs;cbv
 exact ?v
theorem amf:a7 a1 151 ZB:=bf {}
def aEu:aX:=by
 have h:bb 161 {live:=[([0,2,4,10,11],[])]}=some ?v:=by conv=>lhs;cbv
 exact ?v
theorem aEv:a7 a1 161 aEu:=bf {live:=[([0,2,4,10,11],[])]}
def XW:aX:=by
 have h:bb 163 {live:=[([0,1,2],[])]}=some ?v:=by conv=>lhs;cbv
 exact ?v
theorem p3:a7 a1 163 XW:=bf {live:=[([0,1,2],[])]}
def ZJ:aX:=by
 have h:bb 169 {live:=[([0,5],[])]}=some ?v:=by conv=>lhs;cbv
 exact ?v
theorem ZK:a7 a1 169 ZJ:=bf {live:=[([0,5],[])]}
def V':aX:=by
 have h:bb 170 {}=some ?v:=by conv=>lhs;cbv
 exact ?v
theorem al3:a7 a1 170 V':=bf {}
def aEw:aX:=by
 have h:bb 172 {}=some ?v:=by conv=>lhs;cbv
 exact ?v
theorem aEx:a7 a1 172 aEw:=bf {}
def XZ:aX:=by
 have h:bb 175 {}=some ?v:=by conv=>lhs;cbv
 exact ?v
theorem X0:a7 a1 175 XZ:=bf {}
def Uo:aX:=by
 have h:bb 176 {take:=[2]}=some ?v:=by conv=>lhs;cbv
 exact ?v
theorem Up:a7 a1 176 Uo:=bf {take:=[2]}
def aEy:aX:=by
 have h:bb 185 {live:=[([0,1,12,13],[])]}=some ?v:=by conv=>lhs;cbv
 exact ?v
theorem aEz:a7 a1 185 aEy:=bf {live:=[([0,1,12,13],[])]}
def ZS:aX:=by
 have h:bb 187 {}=some ?v:=by conv=>lhs;cbv
 exact ?v
theorem ZT:a7 a1 187 ZS:=bf {}
def Wh:aX:=by
 have h:bb 196 {}=some ?v:=by conv=>lhs;cbv
 exact ?v
theorem Wi:a7 a1 196 Wh:=bf {}
def Ux:aX:=by
 have h:bb 197 {live:=[([19,20,21],[])]}=some ?v:=by conv=>lhs;cbv
 exact ?v
theorem Uy:a7 a1 197 Ux:=bf {live:=[([19,20,21],[])]}
def UB:aX:=by
 have h:bb 199 {}=some ?v:=by conv=>lhs;cbv
 exact ?v
theorem UC:a7 a1 199 UB:=bf {}
def aEA:aX:=by
 have h:bb 200 {own:=true}=some ?v:=by conv=>lhs;cbv
 exact ?v
theorem aEB:a7 a1 200 aEA:=bf {own:=true}
def Wj:aX:=by
 have h:bb 203 {heap:=[3]}=some ?v:=by conv=>lhs;cbv
 exact ?v
theorem al4:a7 a1 203 Wj:=bf {heap:=[3]}
def X9:aX:=by
 have h:bb 226 {take:=[13],live:=[([3,7,8,9],[])]}=some ?v:=by conv=>lhs;cbv
 exact ?v
theorem X':a7 a1 226 X9:=bf {take:=[13],live:=[([3,7,8,9],[])]}
def Ya:aX:=by
 have h:bb 227 {take:=[13],live:=[([3,7,8,9],[])]}=some ?v:=by conv=>lhs;cbv
 exact ?v
theorem Yb:a7 a1 227 Ya:=bf {take:=[13],live:=[([3,7,8,9],[])]}
def aEC:aX:=by
 have h:bb 230 {heap:=[3,4,5]}=some ?v:=by conv=>lhs;cbv
 exact ?v
theorem aED:a7 a1 230 aEC:=bf {heap:=[3,4,5]}
def Wy:aX:=by
 have h:bb 235 {}=some ?v:=by conv=>lhs;cbv
 exact ?v
theorem Wz:a7 a1 235 Wy:=bf {}
def WA:aX:=by
 have h:bb 236 {}=some ?v:=by conv=>lhs;cbv
 exact ?v
theorem WB:a7 a1 236 WA:=bf {}
def Yc:aX:=by
 have h:bb 237 {take:=[8,12],heap:=[2],own:=true,uW:=[11]}=some ?v:=by conv=>lhs;cbv
 exact ?v
theorem amc:a7 a1 237 Yc:=bf {take:=[8,12],heap:=[2],own:=true,uW:=[11]}
def aEE:aX:=by
 have h:bb 244 {}=some ?v:=by conv=>lhs;cbv
 exact ?v
theorem aEF:a7 a1 244 aEE:=bf {}
def Z5:aX:=by
 have h:bb 247 {live:=[([1,2,18,19,20],[])]}=some ?v:=by conv=>lhs;cbv
 exact ?v
theorem amh:a7 a1 247 Z5:=bf {live:=[([1,2,18,19,20],[])]}
def Yd:aX:=by
 have h:bb 248 {take:=[30,54],live:=[([1,2,6,16,17,18],[2]),([1,6,39,40,41],[])]}=some ?v:=by conv=>lhs;cbv
 exact ?v
theorem Ye:a7 a1 248 Yd:=bf {take:=[30,54],live:=[([1,2,6,16,17,18],[2]),([1,6,39,40,41],[])]}
def Yf:aX:=by
 have h:bb 251 {}=some ?v:=by conv=>lhs;cbv
 exact ?v
theorem amd:a7 a1 251 Yf:=bf {}
def aEG:aX:=by
 have h:bb 261 {take:=[13]}=some ?v:=by conv=>lhs;cbv
 exact ?v
theorem aEH:a7 a1 261 aEG:=bf {take:=[13]}
def Ym:aX:=by
 have h:bb 264 {}=some ?v:=by conv=>lhs;cbv
 exact ?v
theorem Yn:a7 a1 264 Ym:=bf {}
def aDu:aX:=by
 have h:bb 267 {live:=[([0,2],[]),([0,1,2,3],[])]}=some ?v:=by conv=>lhs;cbv
 exact ?v
theorem aDA:a7 a1 267 aDu:=bf {live:=[([0,2],[]),([0,1,2,3],[])]}
def aEI:aX:=by
 have h:bb 286 {take:=[69],live:=[([1,2,3,10,52,53,54],[3])]}=some ?v:=by conv=>lhs;cbv
 exact ?v
theorem aEJ:a7 a1 286 aEI:=bf {take:=[69],live:=[([1,2,3,10,52,53,54],[3])]}
def aag:aX:=by
 have h:bb 297 {live:=[([0,1,2,6,7],[6,7])]}=some ?v:=by conv=>lhs;cbv
 exact ?v
theorem aah:a7 a1 297 aag:=bf {live:=[([0,1,2,6,7],[6,7])]}
def aao:aX:=by
 have h:bb 308 {live:=[([0,1,7,8],[])]}=some ?v:=by conv=>lhs;cbv
 exact ?v
theorem aap:a7 a1 308 aao:=bf {live:=[([0,1,7,8],[])]}
def aEK:aX:=by
 have h:bb 314 {live:=[([0,1,7,8],[])]}=some ?v:=by conv=>lhs;cbv
 exact ?v
theorem aEL:a7 a1 314 aEK:=bf {live:=[([0,1,7,8],[])]}
def aEM:aX:=by
 have h:bb 348 {}=some ?v:=by conv=>lhs;cbv
 exact ?v
theorem aEN:a7 a1 348 aEM:=bf {}
def aEO:aX:=by
 have h:bb 351 {take:=[2]}=some ?v:=by conv=>lhs;cbv
 exact ?v
theorem aEP:a7 a1 351 aEO:=bf {take:=[2]}
end Go.Proofs.YthffhbakgmemaaaGreatDoor
