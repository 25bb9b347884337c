/- Part of parts_said. -/
import Derived.Test.YthffhbakgmemaaaGreatDoorP
set_option maxRecDepth 100000
set_option maxHeartbeats 8000000
namespace Go.Proofs.YthffhbakgmemaaaGreatDoor
open Go Go.aG
def Wj:aW:=by
 have h:a7 20 {}=some ?v:=by conv=>lhs;cbv
 exact ?v
theorem Wk:a6 a1 20 Wj:=a8 {}
def Wl:aW:=by
 have h:a7 22 {take:=[16],live:=[([0,5,10,11,12],[])]}=some ?v:=by conv=>lhs;cbv
 exact ?v
theorem anr:a6 a1 22 Wl:=a8 {take:=[16],live:=[([0,5,10,11,12],[])]}
def Wm:aW:=by
 have h:a7 25 {}=some ?v:=by conv=>lhs;cbv
 exact ?v
theorem Wn:a6 a1 25 Wm:=a8 {}
def Wo:aW:=by
 have h:a7 28 {}=some ?v:=by conv=>lhs;cbv
 exact ?v
theorem Wp:a6 a1 28 Wo:=a8 {}
def Wq:aW:=by
 have h:a7 30 {take:=[14],live:=[([0,5,8,9,10],[])]}=some ?v:=by conv=>lhs;cbv
 exact ?v
theorem Wr:a6 a1 30 Wq:=a8 {take:=[14],live:=[([0,5,8,9,10],[])]}
def Ws:aW:=by
 have h:a7 43 {}=some ?v:=by conv=>lhs;cbv
 exact ?v
theorem L8:a6 a1 43 Ws:=a8 {}
def Wt:aW:=by
 have h:a7 46 {take:=[51,68,92],heap:=[36],live:=[([0,2,37,38,39],[]),([0,2,105,106,107],[])],objs:=[105,55],sj:=[99],vC:=[56,85]}=some ?v:=by
  apply aCO;apply kg Tryz.func46;repeat (first|apply kh|apply ki|apply kj|apply kk|(conv=>lhs;cbv)|rfl)
 exact ?v
theorem Wu:a6 a1 46 Wt:=a8 {take:=[51,68,92],heap:=[36],live:=[([0,2,37,38,39],[]),([0,2,105,106,107],[])],objs:=[105,55],sj:=[99],vC:=[56,85]}
def Wv:aW:=by
 have h:a7 48 {}=some ?v:=by conv=>lhs;cbv
 exact ?v
theorem L9:a6 a1 48 Wv:=a8 {}
def Ww:aW:=by
 have h:a7 50 {}=some ?v:=by conv=>lhs;cbv
 exact ?v
theorem Ma:a6 a1 50 Ww:=a8 {}
def Wx:aW:=by
 have h:a7 53 {live:=[([0,1,7,8],[])]}=some ?v:=by conv=>lhs;cbv
 exact ?v
theorem Mb:a6 a1 53 Wx:=a8 {live:=[([0,1,7,8],[])]}
def Wy:aW:=by
 have h:a7 63 {}=some ?v:=by
  apply aCO;apply kg Tryz.func63;repeat (first|apply kh|apply ki|apply kj|apply kk|(conv=>lhs;cbv)|rfl)
 exact ?v
theorem G9:a6 a1 63 Wy:=a8 {}
def Wz:aW:=by
 have h:a7 69 {take:=[50],live:=[([0,18,19,20],[]),([0,5,6,7,18,19,20,37,38,39],[])]}=some ?v:=by
  apply aCO;apply kg Tryz.func69;repeat (first|apply kh|apply ki|apply kj|apply kk|(conv=>lhs;cbv)|rfl)
 exact ?v
theorem WA:a6 a1 69 Wz:=a8 {take:=[50],live:=[([0,18,19,20],[]),([0,5,6,7,18,19,20,37,38,39],[])]}
def WB:aW:=by
 have h:a7 71 {}=some ?v:=by conv=>lhs;cbv
 exact ?v
theorem ans:a6 a1 71 WB:=a8 {}
def WC:aW:=by
 have h:a7 76 {}=some ?v:=by conv=>lhs;cbv
 exact ?v
theorem Mc:a6 a1 76 WC:=a8 {}
def WD:aW:=by
 have h:a7 78 {live:=[([0,1,2,3,8],[]),([0,1,2,3,8,9],[])]}=some ?v:=by
  apply aCO;apply kg Tryz.func78;repeat (first|apply kh|apply ki|apply kj|apply kk|(conv=>lhs;cbv)|rfl)
 exact ?v
theorem ant:a6 a1 78 WD:=a8 {live:=[([0,1,2,3,8],[]),([0,1,2,3,8,9],[])]}
def WE:aW:=by
 have h:a7 92 {}=some ?v:=by conv=>lhs;cbv
 exact ?v
theorem WG:a6 a1 92 WE:=a8 {}
def WH:aW:=by
 have h:a7 93 {}=some ?v:=by conv=>lhs;cbv
 exact ?v
theorem WI:a6 a1 93 WH:=a8 {}
def WJ:aW:=by
 have h:a7 96 {take:=[20,56],live:=[([1,3,14,15,16],[1]),([1,6,50,51,52],[1])],objs:=[44,71,83]}=some ?v:=by
  apply aCO;apply kg Tryz.func96;repeat (first|apply kh|apply ki|apply kj|apply kk|(conv=>lhs;cbv)|rfl)
 exact ?v
theorem Ha:a6 a1 96 WJ:=a8 {take:=[20,56],live:=[([1,3,14,15,16],[1]),([1,6,50,51,52],[1])],objs:=[44,71,83]}
def WK:aW:=by
 have h:a7 103 {take:=[74],heap:=[30,6],live:=[([6,31,32,33],[]),([6,7,31,32,33,57,58,59],[])]}=some ?v:=by
  apply aCO;apply kg Tryz.func103;repeat (first|apply kh|apply ki|apply kj|apply kk|(conv=>lhs;cbv)|rfl)
 exact ?v
theorem WL:a6 a1 103 WK:=a8 {take:=[74],heap:=[30,6],live:=[([6,31,32,33],[]),([6,7,31,32,33,57,58,59],[])]}
def WM:aW:=by
 have h:a7 105 {}=some ?v:=by conv=>lhs;cbv
 exact ?v
theorem WN:a6 a1 105 WM:=a8 {}
def WO:aW:=by
 have h:a7 116 {live:=[([0,1],[])]}=some ?v:=by conv=>lhs;cbv
 exact ?v
theorem WQ:a6 a1 116 WO:=a8 {live:=[([0,1],[])]}
def WR:aW:=by
 have h:a7 118 {}=some ?v:=by conv=>lhs;cbv
 exact ?v
theorem WS:a6 a1 118 WR:=a8 {}
def WT:aW:=by
 have h:a7 123 {take:=[15]}=some ?v:=by conv=>lhs;cbv
 exact ?v
theorem WU:a6 a1 123 WT:=a8 {take:=[15]}
def WV:aW:=by
 have h:a7 125 {}=some ?v:=by conv=>lhs;cbv
 exact ?v
theorem Dr:a6 a1 125 WV:=a8 {}
def WW:aW:=by
 have h:a7 127 {}=some ?v:=by conv=>lhs;cbv
 exact ?v
theorem WX:a6 a1 127 WW:=a8 {}
def Md:aW:=by
 have h:a7 132 {}=some ?v:=by conv=>lhs;cbv
 exact ?v
theorem WY:a6 a1 132 Md:=a8 {}
def Me:aW:=by
 have h:a7 133 {objs:=[43]}=some ?v:=by conv=>lhs;cbv
 exact ?v
theorem WZ:a6 a1 133 Me:=a8 {objs:=[43]}
def W0:aW:=by
 have h:a7 135 {}=some ?v:=by conv=>lhs;cbv
 exact ?v
theorem W1:a6 a1 135 W0:=a8 {}
def W2:aW:=by
 have h:a7 146 {}=some ?v:=by conv=>lhs;cbv
 exact ?v
theorem W3:a6 a1 146 W2:=a8 {}
def W4:aW:=by
 have h:a7 149 {}=some ?v:=by conv=>lhs;cbv
 exact ?v
theorem W5:a6 a1 149 W4:=a8 {}
def W6:aW:=by
 have h:a7 151 {}=some ?v:=by conv=>lhs;cbv
 exact ?v
theorem W7:a6 a1 151 W6:=a8 {}
def W8:aW:=by
 have h:a7 161 {live:=[([0,2,4,10,11],[])]}=some ?v:=by conv=>lhs;cbv
 exact ?v
theorem W9:a6 a1 161 W8:=a8 {live:=[([0,2,4,10,11],[])]}
def W':aW:=by
 have h:a7 163 {live:=[([0,1,2],[])]}=some ?v:=by conv=>lhs;cbv
 exact ?v
theorem Xa:a6 a1 163 W':=a8 {live:=[([0,1,2],[])]}
def Xb:aW:=by
 have h:a7 169 {live:=[([0,5],[])]}=some ?v:=by conv=>lhs;cbv
 exact ?v
theorem Xc:a6 a1 169 Xb:=a8 {live:=[([0,5],[])]}
def Xd:aW:=by
 have h:a7 170 {}=some ?v:=by conv=>lhs;cbv
 exact ?v
theorem Xe:a6 a1 170 Xd:=a8 {}
def Xf:aW:=by
 have h:a7 172 {}=some ?v:=by conv=>lhs;cbv
 exact ?v
theorem Xg:a6 a1 172 Xf:=a8 {}
def Xh:aW:=by
 have h:a7 175 {}=some ?v:=by conv=>lhs;cbv
 exact ?v
theorem Xi:a6 a1 175 Xh:=a8 {}
def Xj:aW:=by
 have h:a7 176 {take:=[2]}=some ?v:=by conv=>lhs;cbv
 exact ?v
theorem Xk:a6 a1 176 Xj:=a8 {take:=[2]}
def Xl:aW:=by
 have h:a7 185 {live:=[([0,1,12,13],[])]}=some ?v:=by conv=>lhs;cbv
 exact ?v
theorem Xm:a6 a1 185 Xl:=a8 {live:=[([0,1,12,13],[])]}
def Xn:aW:=by
 have h:a7 187 {}=some ?v:=by conv=>lhs;cbv
 exact ?v
theorem Xo:a6 a1 187 Xn:=a8 {}
def Xp:aW:=by
 have h:a7 196 {}=some ?v:=by conv=>lhs;cbv
 exact ?v
theorem Xq:a6 a1 196 Xp:=a8 {}
def Xr:aW:=by
 have h:a7 197 {live:=[([19,20,21],[])]}=some ?v:=by conv=>lhs;cbv
 exact ?v
theorem Xs:a6 a1 197 Xr:=a8 {live:=[([19,20,21],[])]}
def Xt:aW:=by
 have h:a7 199 {}=some ?v:=by conv=>lhs;cbv
 exact ?v
theorem Xu:a6 a1 199 Xt:=a8 {}
def Xv:aW:=by
 have h:a7 200 {own:=true}=some ?v:=by conv=>lhs;cbv
 exact ?v
theorem Xw:a6 a1 200 Xv:=a8 {own:=true}
def Xx:aW:=by
 have h:a7 203 {heap:=[3]}=some ?v:=by conv=>lhs;cbv
 exact ?v
theorem Xy:a6 a1 203 Xx:=a8 {heap:=[3]}
def Xz:aW:=by
 have h:a7 226 {take:=[13],live:=[([3,7,8,9],[])]}=some ?v:=by conv=>lhs;cbv
 exact ?v
theorem XA:a6 a1 226 Xz:=a8 {take:=[13],live:=[([3,7,8,9],[])]}
def XB:aW:=by
 have h:a7 227 {take:=[13],live:=[([3,7,8,9],[])]}=some ?v:=by conv=>lhs;cbv
 exact ?v
theorem XC:a6 a1 227 XB:=a8 {take:=[13],live:=[([3,7,8,9],[])]}
def XD:aW:=by
 have h:a7 230 {heap:=[3,4,5]}=some ?v:=by conv=>lhs;cbv
 exact ?v
theorem XE:a6 a1 230 XD:=a8 {heap:=[3,4,5]}
def XF:aW:=by
 have h:a7 235 {}=some ?v:=by conv=>lhs;cbv
 exact ?v
theorem XG:a6 a1 235 XF:=a8 {}
def XH:aW:=by
 have h:a7 236 {}=some ?v:=by conv=>lhs;cbv
 exact ?v
theorem XI:a6 a1 236 XH:=a8 {}
def XJ:aW:=by
 have h:a7 237 {take:=[8,12],heap:=[2],own:=true,vC:=[11]}=some ?v:=by conv=>lhs;cbv
 exact ?v
theorem XK:a6 a1 237 XJ:=a8 {take:=[8,12],heap:=[2],own:=true,vC:=[11]}
def XL:aW:=by
 have h:a7 244 {}=some ?v:=by conv=>lhs;cbv
 exact ?v
theorem XM:a6 a1 244 XL:=a8 {}
def XO:aW:=by
 have h:a7 247 {live:=[([1,2,18,19,20],[])]}=some ?v:=by conv=>lhs;cbv
 exact ?v
theorem XP:a6 a1 247 XO:=a8 {live:=[([1,2,18,19,20],[])]}
def XQ:aW:=by
 have h:a7 248 {take:=[30,54],live:=[([1,2,6,16,17,18],[2]),([1,6,39,40,41],[])]}=some ?v:=by conv=>lhs;cbv
 exact ?v
theorem XR:a6 a1 248 XQ:=a8 {take:=[30,54],live:=[([1,2,6,16,17,18],[2]),([1,6,39,40,41],[])]}
def XS:aW:=by
 have h:a7 251 {}=some ?v:=by conv=>lhs;cbv
 exact ?v
theorem XT:a6 a1 251 XS:=a8 {}
def XU:aW:=by
 have h:a7 261 {take:=[13]}=some ?v:=by conv=>lhs;cbv
 exact ?v
theorem XV:a6 a1 261 XU:=a8 {take:=[13]}
def XW:aW:=by
 have h:a7 264 {}=some ?v:=by conv=>lhs;cbv
 exact ?v
theorem XX:a6 a1 264 XW:=a8 {}
def Ds:aW:=by
 have h:a7 267 {live:=[([0,2],[]),([0,1,2,3],[])]}=some ?v:=by conv=>lhs;cbv
 exact ?v
theorem Hb:a6 a1 267 Ds:=a8 {live:=[([0,2],[]),([0,1,2,3],[])]}
def XY:aW:=by
 have h:a7 286 {take:=[69],live:=[([1,2,3,10,52,53,54],[3])]}=some ?v:=by conv=>lhs;cbv
 exact ?v
theorem XZ:a6 a1 286 XY:=a8 {take:=[69],live:=[([1,2,3,10,52,53,54],[3])]}
def X0:aW:=by
 have h:a7 297 {live:=[([0,1,2,6,7],[6,7])]}=some ?v:=by conv=>lhs;cbv
 exact ?v
theorem X1:a6 a1 297 X0:=a8 {live:=[([0,1,2,6,7],[6,7])]}
def X2:aW:=by
 have h:a7 308 {live:=[([0,1,7,8],[])]}=some ?v:=by conv=>lhs;cbv
 exact ?v
theorem X3:a6 a1 308 X2:=a8 {live:=[([0,1,7,8],[])]}
def X4:aW:=by
 have h:a7 314 {live:=[([0,1,7,8],[])]}=some ?v:=by conv=>lhs;cbv
 exact ?v
theorem X5:a6 a1 314 X4:=a8 {live:=[([0,1,7,8],[])]}
def X6:aW:=by
 have h:a7 348 {}=some ?v:=by conv=>lhs;cbv
 exact ?v
theorem X7:a6 a1 348 X6:=a8 {}
def X8:aW:=by
 have h:a7 351 {take:=[2]}=some ?v:=by conv=>lhs;cbv
 exact ?v
theorem X9:a6 a1 351 X8:=a8 {take:=[2]}
end Go.Proofs.YthffhbakgmemaaaGreatDoor
