/- Part of texts_said. -/
import Derived.Test.YtmgpekpnidjfoaaGreatDoorP
set_option maxRecDepth 100000
set_option maxHeartbeats 8000000
namespace Go.Proofs.YtmgpekpnidjfoaaGreatDoor
open Go Go.aJ
def XY:aX:=by
 have h:bf 6 {}=some ?v:=by conv=>lhs;cbv
 exact ?v
theorem FF:a7 a1.prog 6 XY:=bg {}
def XZ:aX:=by
 have h:bf 7 {take:=[25],live:=[([2,5],[])]}=some ?v:=by conv=>lhs;cbv
 exact ?v
theorem X0:a7 a1.prog 7 XZ:=bg {take:=[25],live:=[([2,5],[])]}
def X1:aX:=by
 have h:bf 26 {}=some ?v:=by conv=>lhs;cbv
 exact ?v
theorem Co:a7 a1.prog 26 X1:=bg {}
def X2:aX:=by
 have h:bf 32 {}=some ?v:=by conv=>lhs;cbv
 exact ?v
theorem X3:a7 a1.prog 32 X2:=bg {}
def X4:aX:=by
 have h:bf 33 {}=some ?v:=by conv=>lhs;cbv
 exact ?v
theorem X5:a7 a1.prog 33 X4:=bg {}
def X6:aX:=by
 have h:bf 34 {own:=true}=some ?v:=by conv=>lhs;cbv
 exact ?v
theorem KT:a7 a1.prog 34 X6:=bg {own:=true}
def X7:aX:=by
 have h:bf 35 {}=some ?v:=by conv=>lhs;cbv
 exact ?v
theorem KU:a7 a1.prog 35 X7:=bg {}
def X8:aX:=by
 have h:bf 36 {}=some ?v:=by conv=>lhs;cbv
 exact ?v
theorem X9:a7 a1.prog 36 X8:=bg {}
def X':aX:=by
 have h:bf 38 {}=some ?v:=by conv=>lhs;cbv
 exact ?v
theorem Ya:a7 a1.prog 38 X':=bg {}
def Yb:aX:=by
 have h:bf 40 {}=some ?v:=by conv=>lhs;cbv
 exact ?v
theorem Yc:a7 a1.prog 40 Yb:=bg {}
def Yd:aX:=by
 have h:bf 52 {take:=[31],live:=[([0,2,3],[])]}=some ?v:=by conv=>lhs;cbv
 exact ?v
theorem KV:a7 a1.prog 52 Yd:=bg {take:=[31],live:=[([0,2,3],[])]}
def Ye:aX:=by
 have h:bf 54 {heap:=[1,3]}=some ?v:=by conv=>lhs;cbv
 exact ?v
theorem Yf:a7 a1.prog 54 Ye:=bg {heap:=[1,3]}
def Yg:aX:=by
 have h:bf 57 {}=some ?v:=by conv=>lhs;cbv
 exact ?v
theorem Yh:a7 a1.prog 57 Yg:=bg {}
def Yi:aX:=by
 have h:bf 65 {}=some ?v:=by conv=>lhs;cbv
 exact ?v
theorem KW:a7 a1.prog 65 Yi:=bg {}
def Yj:aX:=by
 have h:bf 66 {}=some ?v:=by conv=>lhs;cbv
 exact ?v
theorem KX:a7 a1.prog 66 Yj:=bg {}
def Yk:aX:=by
 have h:bf 67 {live:=[([0,1,12,13],[])]}=some ?v:=by conv=>lhs;cbv
 exact ?v
theorem Yl:a7 a1.prog 67 Yk:=bg {live:=[([0,1,12,13],[])]}
def Ym:aX:=by
 have h:bf 74 {}=some ?v:=by conv=>lhs;cbv
 exact ?v
theorem Yn:a7 a1.prog 74 Ym:=bg {}
def Yo:aX:=by
 have h:bf 77 {live:=[([3,15,16,17],[])]}=some ?v:=by conv=>lhs;cbv
 exact ?v
theorem Yp:a7 a1.prog 77 Yo:=bg {live:=[([3,15,16,17],[])]}
def Yq:aX:=by
 have h:bf 80 {take:=[22,36],live:=[([1,2,4,15,16,17],[1,2]),([1,2,29,30,31],[1,2])]}=some ?v:=by
  apply azK;apply mC Tryz.func80;repeat (first|apply mD|apply mE|apply mF|apply mG|(conv=>lhs;cbv)|rfl)
 exact ?v
theorem ak3:a7 a1.prog 80 Yq:=bg {take:=[22,36],live:=[([1,2,4,15,16,17],[1,2]),([1,2,29,30,31],[1,2])]}
def Yr:aX:=by
 have h:bf 83 {take:=[75],heap:=[5],live:=[([0,1,39,40,41],[])]}=some ?v:=by
  apply azK;apply mC Tryz.func83;repeat (first|apply mD|apply mE|apply mF|apply mG|(conv=>lhs;cbv)|rfl)
 exact ?v
theorem Ys:a7 a1.prog 83 Yr:=bg {take:=[75],heap:=[5],live:=[([0,1,39,40,41],[])]}
def Yt:aX:=by
 have h:bf 88 {heap:=[3]}=some ?v:=by conv=>lhs;cbv
 exact ?v
theorem KY:a7 a1.prog 88 Yt:=bg {heap:=[3]}
def Yu:aX:=by
 have h:bf 91 {live:=[([0,1,4,19,20],[4])]}=some ?v:=by conv=>lhs;cbv
 exact ?v
theorem Yv:a7 a1.prog 91 Yu:=bg {live:=[([0,1,4,19,20],[4])]}
def Yw:aX:=by
 have h:bf 101 {}=some ?v:=by conv=>lhs;cbv
 exact ?v
theorem Yx:a7 a1.prog 101 Yw:=bg {}
def Yy:aX:=by
 have h:bf 102 {heap:=[1,3]}=some ?v:=by conv=>lhs;cbv
 exact ?v
theorem Yz:a7 a1.prog 102 Yy:=bg {heap:=[1,3]}
def YA:aX:=by
 have h:bf 110 {live:=[([0,1,12,13],[])]}=some ?v:=by conv=>lhs;cbv
 exact ?v
theorem YB:a7 a1.prog 110 YA:=bg {live:=[([0,1,12,13],[])]}
def YC:aX:=by
 have h:bf 112 {}=some ?v:=by conv=>lhs;cbv
 exact ?v
theorem YD:a7 a1.prog 112 YC:=bg {}
def Cp:aX:=by
 have h:bf 119 {live:=[([0,2],[]),([0,1,2,3],[])]}=some ?v:=by conv=>lhs;cbv
 exact ?v
theorem FG:a7 a1.prog 119 Cp:=bg {live:=[([0,2],[]),([0,1,2,3],[])]}
def YE:aX:=by
 have h:bf 122 {}=some ?v:=by conv=>lhs;cbv
 exact ?v
theorem YF:a7 a1.prog 122 YE:=bg {}
def YG:aX:=by
 have h:bf 123 {take:=[16],live:=[([1,2,9,10,11],[1,2])]}=some ?v:=by conv=>lhs;cbv
 exact ?v
theorem ak4:a7 a1.prog 123 YG:=bg {take:=[16],live:=[([1,2,9,10,11],[1,2])]}
def YH:aX:=by
 have h:bf 125 {}=some ?v:=by conv=>lhs;cbv
 exact ?v
theorem KZ:a7 a1.prog 125 YH:=bg {}
def YI:aX:=by
 have h:bf 129 {}=some ?v:=by conv=>lhs;cbv
 exact ?v
theorem YJ:a7 a1.prog 129 YI:=bg {}
def YK:aX:=by
 have h:bf 133 {}=some ?v:=by conv=>lhs;cbv
 exact ?v
theorem YL:a7 a1.prog 133 YK:=bg {}
def YM:aX:=by
 have h:bf 136 {}=some ?v:=by conv=>lhs;cbv
 exact ?v
theorem YN:a7 a1.prog 136 YM:=bg {}
def YO:aX:=by
 have h:bf 137 {}=some ?v:=by conv=>lhs;cbv
 exact ?v
theorem YP:a7 a1.prog 137 YO:=bg {}
def YQ:aX:=by
 have h:bf 140 {q9:=[6]}=some ?v:=by conv=>lhs;cbv
 exact ?v
theorem K0:a7 a1.prog 140 YQ:=bg {q9:=[6]}
def YR:aX:=by
 have h:bf 144 {}=some ?v:=by conv=>lhs;cbv
 exact ?v
theorem YS:a7 a1.prog 144 YR:=bg {}
def YT:aX:=by
 have h:bf 146 {take:=[76],live:=[([1,2,3,10,59,60,61],[3])]}=some ?v:=by
  apply azK;apply mC Tryz.func146;repeat (first|apply mD|apply mE|apply mF|apply mG|(conv=>lhs;cbv)|rfl)
 exact ?v
theorem YU:a7 a1.prog 146 YT:=bg {take:=[76],live:=[([1,2,3,10,59,60,61],[3])]}
def YV:aX:=by
 have h:bf 153 {live:=[([0,5],[])]}=some ?v:=by conv=>lhs;cbv
 exact ?v
theorem YW:a7 a1.prog 153 YV:=bg {live:=[([0,5],[])]}
def YX:aX:=by
 have h:bf 154 {}=some ?v:=by conv=>lhs;cbv
 exact ?v
theorem YY:a7 a1.prog 154 YX:=bg {}
def YZ:aX:=by
 have h:bf 157 {heap:=[2,5],objs:=[7,48],uj:=[59]}=some ?v:=by conv=>lhs;cbv
 exact ?v
theorem qL:a7 a1.prog 157 YZ:=bg {heap:=[2,5],objs:=[7,48],uj:=[59]}
def Y0:aX:=by
 have h:bf 159 {take:=[2]}=some ?v:=by conv=>lhs;cbv
 exact ?v
theorem Y1:a7 a1.prog 159 Y0:=bg {take:=[2]}
def Y2:aX:=by
 have h:bf 163 {take:=[107],live:=[([1,5,101,102,103],[1])]}=some ?v:=by
  apply azK;apply mC Tryz.func163;repeat (first|apply mD|apply mE|apply mF|apply mG|(conv=>lhs;cbv)|rfl)
 exact ?v
theorem pJ:a7 a1.prog 163 Y2:=bg {take:=[107],live:=[([1,5,101,102,103],[1])]}
def Y3:aX:=by
 have h:bf 164 {take:=[25],live:=[([1,3,8,9,10],[1])]}=some ?v:=by conv=>lhs;cbv
 exact ?v
theorem Y4:a7 a1.prog 164 Y3:=bg {take:=[25],live:=[([1,3,8,9,10],[1])]}
def Y5:aX:=by
 have h:bf 167 {take:=[20],live:=[([3,8,9,10],[])]}=some ?v:=by conv=>lhs;cbv
 exact ?v
theorem Y6:a7 a1.prog 167 Y5:=bg {take:=[20],live:=[([3,8,9,10],[])]}
def Y7:aX:=by
 have h:bf 173 {live:=[([0,1,7,8],[])]}=some ?v:=by conv=>lhs;cbv
 exact ?v
theorem Y8:a7 a1.prog 173 Y7:=bg {live:=[([0,1,7,8],[])]}
def Y9:aX:=by
 have h:bf 175 {live:=[([0,1,7,8],[])]}=some ?v:=by conv=>lhs;cbv
 exact ?v
theorem Y':a7 a1.prog 175 Y9:=bg {live:=[([0,1,7,8],[])]}
def Za:aX:=by
 have h:bf 182 {}=some ?v:=by conv=>lhs;cbv
 exact ?v
theorem Zb:a7 a1.prog 182 Za:=bg {}
def Zc:aX:=by
 have h:bf 183 {}=some ?v:=by
  apply azK;apply mC Tryz.func183;repeat (first|apply mD|apply mE|apply mF|apply mG|(conv=>lhs;cbv)|rfl)
 exact ?v
theorem Zd:a7 a1.prog 183 Zc:=bg {}
def Ze:aX:=by
 have h:bf 191 {take:=[3,14]}=some ?v:=by conv=>lhs;cbv
 exact ?v
theorem Zf:a7 a1.prog 191 Ze:=bg {take:=[3,14]}
def Zg:aX:=by
 have h:bf 199 {live:=[([0,1,2,3,10],[])]}=some ?v:=by
  apply azK;apply mC Tryz.func199;repeat (first|apply mD|apply mE|apply mF|apply mG|(conv=>lhs;cbv)|rfl)
 exact ?v
theorem Zh:a7 a1.prog 199 Zg:=bg {live:=[([0,1,2,3,10],[])]}
def Zi:aX:=by
 have h:bf 205 {take:=[8,12],heap:=[2],own:=true,uk:=[11]}=some ?v:=by conv=>lhs;cbv
 exact ?v
theorem Zj:a7 a1.prog 205 Zi:=bg {take:=[8,12],heap:=[2],own:=true,uk:=[11]}
def Zk:aX:=by
 have h:bf 207 {}=some ?v:=by conv=>lhs;cbv
 exact ?v
theorem ak5:a7 a1.prog 207 Zk:=bg {}
def Zl:aX:=by
 have h:bf 213 {}=some ?v:=by conv=>lhs;cbv
 exact ?v
theorem Zm:a7 a1.prog 213 Zl:=bg {}
def Zn:aX:=by
 have h:bf 215 {take:=[31],live:=[([0,3,9,10,11],[]),([6,25,26,27],[])]}=some ?v:=by conv=>lhs;cbv
 exact ?v
theorem Cq:a7 a1.prog 215 Zn:=bg {take:=[31],live:=[([0,3,9,10,11],[]),([6,25,26,27],[])]}
def Zo:aX:=by
 have h:bf 249 {}=some ?v:=by conv=>lhs;cbv
 exact ?v
theorem ak6:a7 a1.prog 249 Zo:=bg {}
def Zp:aX:=by
 have h:bf 251 {live:=[([0,1,2,11,12,13],[])]}=some ?v:=by conv=>lhs;cbv
 exact ?v
theorem ak7:a7 a1.prog 251 Zp:=bg {live:=[([0,1,2,11,12,13],[])]}
def Zq:aX:=by
 have h:bf 252 {}=some ?v:=by conv=>lhs;cbv
 exact ?v
theorem ak8:a7 a1.prog 252 Zq:=bg {}
def Zr:aX:=by
 have h:bf 282 {live:=[([0,1,7,8],[])]}=some ?v:=by conv=>lhs;cbv
 exact ?v
theorem Zs:a7 a1.prog 282 Zr:=bg {live:=[([0,1,7,8],[])]}
def Zt:aX:=by
 have h:bf 292 {}=some ?v:=by conv=>lhs;cbv
 exact ?v
theorem Zu:a7 a1.prog 292 Zt:=bg {}
def Zv:aX:=by
 have h:bf 309 {}=some ?v:=by conv=>lhs;cbv
 exact ?v
theorem Zw:a7 a1.prog 309 Zv:=bg {}
def Zx:aX:=by
 have h:bf 310 {take:=[2]}=some ?v:=by conv=>lhs;cbv
 exact ?v
theorem Zy:a7 a1.prog 310 Zx:=bg {take:=[2]}
end Go.Proofs.YtmgpekpnidjfoaaGreatDoor
