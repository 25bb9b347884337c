/- Part of parts_said. -/
import Derived.Test.YthffhbakgmemaaaGreatDoorP
set_option maxRecDepth 100000
set_option maxHeartbeats 8000000
namespace Go.Proofs.YthffhbakgmemaaaGreatDoor
open Go Go.aG
def X':aW:=by
 have h:a7 4 {live:=[([5,6,44,45,46],[])]}=some ?v:=by
  apply aCO;apply kg Tryz.func4;repeat (first|apply kh|apply ki|apply kj|apply kk|(conv=>lhs;cbv)|rfl)
 exact ?v
theorem Hc:a6 a1 4 X':=a8 {live:=[([5,6,44,45,46],[])]}
def Ya:aW:=by
 have h:a7 5 {live:=[([3,6,24,25],[])]}=some ?v:=by conv=>lhs;cbv
 exact ?v
theorem Mf:a6 a1 5 Ya:=a8 {live:=[([3,6,24,25],[])]}
def Yb:aW:=by
 have h:a7 6 {}=some ?v:=by conv=>lhs;cbv
 exact ?v
theorem anu:a6 a1 6 Yb:=a8 {}
def Yc:aW:=by
 have h:a7 7 {take:=[28],live:=[([0,3,10,11,12],[]),([0,3,5,6,7,10,11,12],[6])]}=some ?v:=by conv=>lhs;cbv
 exact ?v
theorem Yd:a6 a1 7 Yc:=a8 {take:=[28],live:=[([0,3,10,11,12],[]),([0,3,5,6,7,10,11,12],[6])]}
def Ye:aW:=by
 have h:a7 9 {live:=[([0,1,12,13],[])]}=some ?v:=by conv=>lhs;cbv
 exact ?v
theorem Yf:a6 a1 9 Ye:=a8 {live:=[([0,1,12,13],[])]}
def Yg:aW:=by
 have h:a7 13 {heap:=[2]}=some ?v:=by conv=>lhs;cbv
 exact ?v
theorem Mg:a6 a1 13 Yg:=a8 {heap:=[2]}
def Yh:aW:=by
 have h:a7 23 {}=some ?v:=by conv=>lhs;cbv
 exact ?v
theorem Yi:a6 a1 23 Yh:=a8 {}
def Yj:aW:=by
 have h:a7 24 {take:=[13],heap:=[1],live:=[([1,3,9,10],[])],si:=[2],sj:=[18],vC:=[16]}=some ?v:=by conv=>lhs;cbv
 exact ?v
theorem Yk:a6 a1 24 Yj:=a8 {take:=[13],heap:=[1],live:=[([1,3,9,10],[])],si:=[2],sj:=[18],vC:=[16]}
def Yl:aW:=by
 have h:a7 35 {objs:=[7]}=some ?v:=by conv=>lhs;cbv
 exact ?v
theorem Mh:a6 a1 35 Yl:=a8 {objs:=[7]}
def Ym:aW:=by
 have h:a7 36 {}=some ?v:=by conv=>lhs;cbv
 exact ?v
theorem Yn:a6 a1 36 Ym:=a8 {}
def Yo:aW:=by
 have h:a7 37 {}=some ?v:=by conv=>lhs;cbv
 exact ?v
theorem anv:a6 a1 37 Yo:=a8 {}
def Yp:aW:=by
 have h:a7 39 {live:=[([3,6,7,8],[])]}=some ?v:=by conv=>lhs;cbv
 exact ?v
theorem anw:a6 a1 39 Yp:=a8 {live:=[([3,6,7,8],[])]}
def Yq:aW:=by
 have h:a7 40 {}=some ?v:=by conv=>lhs;cbv
 exact ?v
theorem Yr:a6 a1 40 Yq:=a8 {}
def Ys:aW:=by
 have h:a7 45 {take:=[25],live:=[([2,5],[])]}=some ?v:=by conv=>lhs;cbv
 exact ?v
theorem Yt:a6 a1 45 Ys:=a8 {take:=[25],live:=[([2,5],[])]}
def Yu:aW:=by
 have h:a7 47 {take:=[35],live:=[([0,3,5,7,22,23,24],[3])]}=some ?v:=by
  apply aCO;apply kg Tryz.func47;repeat (first|apply kh|apply ki|apply kj|apply kk|(conv=>lhs;cbv)|rfl)
 exact ?v
theorem anx:a6 a1 47 Yu:=a8 {take:=[35],live:=[([0,3,5,7,22,23,24],[3])]}
def Yv:aW:=by
 have h:a7 57 {live:=[([0,1,2,3,4,10,11],[])]}=some ?v:=by
  apply aCO;apply kg Tryz.func57;repeat (first|apply kh|apply ki|apply kj|apply kk|(conv=>lhs;cbv)|rfl)
 exact ?v
theorem anz:a6 a1 57 Yv:=a8 {live:=[([0,1,2,3,4,10,11],[])]}
def Yw:aW:=by
 have h:a7 58 {}=some ?v:=by conv=>lhs;cbv
 exact ?v
theorem anA:a6 a1 58 Yw:=a8 {}
def Yx:aW:=by
 have h:a7 60 {}=some ?v:=by conv=>lhs;cbv
 exact ?v
theorem Yy:a6 a1 60 Yx:=a8 {}
def Yz:aW:=by
 have h:a7 61 {heap:=[18]}=some ?v:=by conv=>lhs;cbv
 exact ?v
theorem YA:a6 a1 61 Yz:=a8 {heap:=[18]}
def YB:aW:=by
 have h:a7 62 {}=some ?v:=by conv=>lhs;cbv
 exact ?v
theorem Dt:a6 a1 62 YB:=a8 {}
def YC:aW:=by
 have h:a7 72 {live:=[([0,1,2,6,7,8],[]),([0,1,2,6],[]),([0,1,2,6,7,8],[])]}=some ?v:=by conv=>lhs;cbv
 exact ?v
theorem Mi:a6 a1 72 YC:=a8 {live:=[([0,1,2,6,7,8],[]),([0,1,2,6],[]),([0,1,2,6,7,8],[])]}
def YD:aW:=by
 have h:a7 75 {}=some ?v:=by conv=>lhs;cbv
 exact ?v
theorem Mj:a6 a1 75 YD:=a8 {}
def YE:aW:=by
 have h:a7 101 {heap:=[11],live:=[([0,5,47,48,49],[5])]}=some ?v:=by conv=>lhs;cbv
 exact ?v
theorem YF:a6 a1 101 YE:=a8 {heap:=[11],live:=[([0,5,47,48,49],[5])]}
def YG:aW:=by
 have h:a7 102 {take:=[24],live:=[([0,5,11,12,13],[])]}=some ?v:=by conv=>lhs;cbv
 exact ?v
theorem YH:a6 a1 102 YG:=a8 {take:=[24],live:=[([0,5,11,12,13],[])]}
def YI:aW:=by
 have h:a7 124 {}=some ?v:=by conv=>lhs;cbv
 exact ?v
theorem Du:a6 a1 124 YI:=a8 {}
def YJ:aW:=by
 have h:a7 128 {heap:=[1,3]}=some ?v:=by conv=>lhs;cbv
 exact ?v
theorem YK:a6 a1 128 YJ:=a8 {heap:=[1,3]}
def YL:aW:=by
 have h:a7 134 {}=some ?v:=by conv=>lhs;cbv
 exact ?v
theorem YM:a6 a1 134 YL:=a8 {}
def YN:aW:=by
 have h:a7 140 {live:=[([0,1,12,13],[])]}=some ?v:=by conv=>lhs;cbv
 exact ?v
theorem YO:a6 a1 140 YN:=a8 {live:=[([0,1,12,13],[])]}
def YP:aW:=by
 have h:a7 144 {live:=[([3,15,16,17],[])]}=some ?v:=by conv=>lhs;cbv
 exact ?v
theorem YQ:a6 a1 144 YP:=a8 {live:=[([3,15,16,17],[])]}
def YR:aW:=by
 have h:a7 147 {}=some ?v:=by conv=>lhs;cbv
 exact ?v
theorem YS:a6 a1 147 YR:=a8 {}
def YT:aW:=by
 have h:a7 153 {sj:=[6]}=some ?v:=by conv=>lhs;cbv
 exact ?v
theorem Mk:a6 a1 153 YT:=a8 {sj:=[6]}
def YU:aW:=by
 have h:a7 154 {heap:=[1]}=some ?v:=by conv=>lhs;cbv
 exact ?v
theorem YV:a6 a1 154 YU:=a8 {heap:=[1]}
def YW:aW:=by
 have h:a7 158 {take:=[76],live:=[([1,2,3,10,59,60,61],[3])]}=some ?v:=by
  apply aCO;apply kg Tryz.func158;repeat (first|apply kh|apply ki|apply kj|apply kk|(conv=>lhs;cbv)|rfl)
 exact ?v
theorem YX:a6 a1 158 YW:=a8 {take:=[76],live:=[([1,2,3,10,59,60,61],[3])]}
def YY:aW:=by
 have h:a7 159 {}=some ?v:=by conv=>lhs;cbv
 exact ?v
theorem YZ:a6 a1 159 YY:=a8 {}
def Y0:aW:=by
 have h:a7 171 {}=some ?v:=by conv=>lhs;cbv
 exact ?v
theorem Ml:a6 a1 171 Y0:=a8 {}
def Y1:aW:=by
 have h:a7 174 {heap:=[2,5],objs:=[7,48],si:=[59]}=some ?v:=by
  apply aCO;apply kg Tryz.func174;repeat (first|apply kh|apply ki|apply kj|apply kk|(conv=>lhs;cbv)|rfl)
 exact ?v
theorem rM:a6 a1 174 Y1:=a8 {heap:=[2,5],objs:=[7,48],si:=[59]}
def Y2:aW:=by
 have h:a7 184 {take:=[20,23,28],live:=[([3,8,9,10],[])]}=some ?v:=by conv=>lhs;cbv
 exact ?v
theorem Y3:a6 a1 184 Y2:=a8 {take:=[20,23,28],live:=[([3,8,9,10],[])]}
def Y4:aW:=by
 have h:a7 193 {}=some ?v:=by conv=>lhs;cbv
 exact ?v
theorem Y5:a6 a1 193 Y4:=a8 {}
def Y6:aW:=by
 have h:a7 195 {}=some ?v:=by conv=>lhs;cbv
 exact ?v
theorem Y7:a6 a1 195 Y6:=a8 {}
def Mm:aW:=by
 have h:a7 202 {live:=[([0,5,6,7],[])]}=some ?v:=by conv=>lhs;cbv
 exact ?v
theorem Y8:a6 a1 202 Mm:=a8 {live:=[([0,5,6,7],[])]}
def Y9:aW:=by
 have h:a7 205 {}=some ?v:=by
  apply aCO;apply kg Tryz.func205;repeat (first|apply kh|apply ki|apply kj|apply kk|(conv=>lhs;cbv)|rfl)
 exact ?v
theorem Y':a6 a1 205 Y9:=a8 {}
def Za:aW:=by
 have h:a7 215 {}=some ?v:=by conv=>lhs;cbv
 exact ?v
theorem Zb:a6 a1 215 Za:=a8 {}
def Zc:aW:=by
 have h:a7 217 {heap:=[2,3],objs:=[14,26]}=some ?v:=by conv=>lhs;cbv
 exact ?v
theorem Zd:a6 a1 217 Zc:=a8 {heap:=[2,3],objs:=[14,26]}
def Ze:aW:=by
 have h:a7 218 {heap:=[2,3]}=some ?v:=by conv=>lhs;cbv
 exact ?v
theorem Dv:a6 a1 218 Ze:=a8 {heap:=[2,3]}
def Zf:aW:=by
 have h:a7 219 {heap:=[2,3]}=some ?v:=by conv=>lhs;cbv
 exact ?v
theorem Mn:a6 a1 219 Zf:=a8 {heap:=[2,3]}
def Zg:aW:=by
 have h:a7 220 {live:=[([0,1,7,8],[])]}=some ?v:=by conv=>lhs;cbv
 exact ?v
theorem Mp:a6 a1 220 Zg:=a8 {live:=[([0,1,7,8],[])]}
def Zh:aW:=by
 have h:a7 223 {}=some ?v:=by conv=>lhs;cbv
 exact ?v
theorem Zi:a6 a1 223 Zh:=a8 {}
def Zj:aW:=by
 have h:a7 228 {take:=[20],live:=[([3,8,9,10],[])]}=some ?v:=by conv=>lhs;cbv
 exact ?v
theorem Zk:a6 a1 228 Zj:=a8 {take:=[20],live:=[([3,8,9,10],[])]}
def Zl:aW:=by
 have h:a7 229 {live:=[([0,6,7,8],[])]}=some ?v:=by conv=>lhs;cbv
 exact ?v
theorem Zm:a6 a1 229 Zl:=a8 {live:=[([0,6,7,8],[])]}
def Zn:aW:=by
 have h:a7 232 {live:=[([1,2,7,8],[])]}=some ?v:=by conv=>lhs;cbv
 exact ?v
theorem Zo:a6 a1 232 Zn:=a8 {live:=[([1,2,7,8],[])]}
def Zp:aW:=by
 have h:a7 234 {live:=[([3,15,16,17],[])]}=some ?v:=by conv=>lhs;cbv
 exact ?v
theorem Zq:a6 a1 234 Zp:=a8 {live:=[([3,15,16,17],[])]}
def Zr:aW:=by
 have h:a7 239 {live:=[([0,1,7,8],[])]}=some ?v:=by conv=>lhs;cbv
 exact ?v
theorem Zs:a6 a1 239 Zr:=a8 {live:=[([0,1,7,8],[])]}
def Zt:aW:=by
 have h:a7 240 {}=some ?v:=by conv=>lhs;cbv
 exact ?v
theorem Zu:a6 a1 240 Zt:=a8 {}
def Zv:aW:=by
 have h:a7 259 {take:=[15]}=some ?v:=by conv=>lhs;cbv
 exact ?v
theorem Zw:a6 a1 259 Zv:=a8 {take:=[15]}
def Zx:aW:=by
 have h:a7 265 {}=some ?v:=by conv=>lhs;cbv
 exact ?v
theorem Zy:a6 a1 265 Zx:=a8 {}
def Zz:aW:=by
 have h:a7 287 {}=some ?v:=by conv=>lhs;cbv
 exact ?v
theorem ZA:a6 a1 287 Zz:=a8 {}
def ZB:aW:=by
 have h:a7 288 {take:=[12],live:=[([3,6,7,8],[])]}=some ?v:=by conv=>lhs;cbv
 exact ?v
theorem ZC:a6 a1 288 ZB:=a8 {take:=[12],live:=[([3,6,7,8],[])]}
def ZD:aW:=by
 have h:a7 291 {}=some ?v:=by conv=>lhs;cbv
 exact ?v
theorem ZE:a6 a1 291 ZD:=a8 {}
def ZF:aW:=by
 have h:a7 298 {}=some ?v:=by conv=>lhs;cbv
 exact ?v
theorem ZG:a6 a1 298 ZF:=a8 {}
def ZH:aW:=by
 have h:a7 312 {live:=[([0,6,9,10,11],[])]}=some ?v:=by conv=>lhs;cbv
 exact ?v
theorem ZI:a6 a1 312 ZH:=a8 {live:=[([0,6,9,10,11],[])]}
def ZJ:aW:=by
 have h:a7 333 {}=some ?v:=by conv=>lhs;cbv
 exact ?v
theorem ZK:a6 a1 333 ZJ:=a8 {}
def ZL:aW:=by
 have h:a7 335 {}=some ?v:=by conv=>lhs;cbv
 exact ?v
theorem ZM:a6 a1 335 ZL:=a8 {}
def ZN:aW:=by
 have h:a7 336 {live:=[([0,1,7,8],[])]}=some ?v:=by conv=>lhs;cbv
 exact ?v
theorem ZO:a6 a1 336 ZN:=a8 {live:=[([0,1,7,8],[])]}
def ZP:aW:=by
 have h:a7 338 {}=some ?v:=by conv=>lhs;cbv
 exact ?v
theorem ZQ:a6 a1 338 ZP:=a8 {}
def ZR:aW:=by
 have h:a7 349 {}=some ?v:=by conv=>lhs;cbv
 exact ?v
theorem ZS:a6 a1 349 ZR:=a8 {}
end Go.Proofs.YthffhbakgmemaaaGreatDoor
