/- Part of graphs_said. -/
import Derived.Test.YtmgpekpnidjfoaaGreatDoorP
set_option maxRecDepth 100000
set_option maxHeartbeats 8000000
namespace Go.Proofs.YtmgpekpnidjfoaaGreatDoor
open Go Go.aH
def U4:aX:=by
 have h:bb 8 {heap:=[4],live:=[([0,4,10,11,12],[])],hU:=[4]}=some ?v:=by conv=>lhs;cbv
 exact ?v
theorem U5:a7 a1 8 U4:=bf {heap:=[4],live:=[([0,4,10,11,12],[])],hU:=[4]}
def WU:aX:=by
 have h:bb 12 {}=some ?v:=by conv=>lhs;cbv
 exact ?v
theorem WV:a7 a1 12 WU:=bf {}
def Tw:aX:=by
 have h:bb 16 {live:=[([0,1,5],[])]}=some ?v:=by conv=>lhs;cbv
 exact ?v
theorem Tx:a7 a1 16 Tw:=bf {live:=[([0,1,5],[])]}
def TA:aX:=by
 have h:bb 18 {}=some ?v:=by conv=>lhs;cbv
 exact ?v
theorem TB:a7 a1 18 TA:=bf {}
def TD:aX:=by
 have h:bb 22 {}=some ?v:=by conv=>lhs;cbv
 exact ?v
theorem alT:a7 a1 22 TD:=bf {}
def U9:aX:=by
 have h:bb 31 {live:=[([1,2,15,16,17],[])]}=some ?v:=by conv=>lhs;cbv
 exact ?v
theorem U':a7 a1 31 U9:=bf {live:=[([1,2,15,16,17],[])]}
def Vi:aX:=by
 have h:bb 42 {}=some ?v:=by conv=>lhs;cbv
 exact ?v
theorem Vj:a7 a1 42 Vi:=bf {}
def W3:aX:=by
 have h:bb 44 {}=some ?v:=by conv=>lhs;cbv
 exact ?v
theorem al9:a7 a1 44 W3:=bf {}
def YY:aX:=by
 have h:bb 52 {take:=[31],live:=[([0,2,3],[])]}=some ?v:=by conv=>lhs;cbv
 exact ?v
theorem Ls:a7 a1 52 YY:=bf {take:=[31],live:=[([0,2,3],[])]}
def W4:aX:=by
 have h:bb 53 {live:=[([0,7,8,9],[])]}=some ?v:=by conv=>lhs;cbv
 exact ?v
theorem W5:a7 a1 53 W4:=bf {live:=[([0,7,8,9],[])]}
def Vo:aX:=by
 have h:bb 58 {}=some ?v:=by conv=>lhs;cbv
 exact ?v
theorem Vp:a7 a1 58 Vo:=bf {}
def W8:aX:=by
 have h:bb 66 {}=some ?v:=by conv=>lhs;cbv
 exact ?v
theorem Lm:a7 a1 66 W8:=bf {}
def Vu:aX:=by
 have h:bb 70 {live:=[([0,1,2,6,7,8],[]),([0,1,2,6],[]),([0,1,2,6,7,8],[])]}=some ?v:=by conv=>lhs;cbv
 exact ?v
theorem Lg:a7 a1 70 Vu:=bf {live:=[([0,1,2,6,7,8],[]),([0,1,2,6],[]),([0,1,2,6,7,8],[])]}
def TS:aX:=by
 have h:bb 73 {}=some ?v:=by conv=>lhs;cbv
 exact ?v
theorem La:a7 a1 73 TS:=bf {}
def Xd:aX:=by
 have h:bb 83 {take:=[75],heap:=[5],live:=[([0,1,39,40,41],[])]}=some ?v:=by
  apply aAf;apply ma Tryz.func83;repeat (first|apply mb|apply mc|apply me|apply mf|(conv=>lhs;cbv)|rfl)
 exact ?v
theorem Xe:a7 a1 83 Xd:=bf {take:=[75],heap:=[5],live:=[([0,1,39,40,41],[])]}
def TU:aX:=by
 have h:bb 89 {}=some ?v:=by conv=>lhs;cbv
 exact ?v
theorem TV:a7 a1 89 TU:=bf {}
def TW:aX:=by
 have h:bb 94 {live:=[([0,1],[])]}=some ?v:=by conv=>lhs;cbv
 exact ?v
theorem vL:a7 a1 94 TW:=bf {live:=[([0,1],[])]}
def TX:aX:=by
 have h:bb 95 {take:=[11]}=some ?v:=by conv=>lhs;cbv
 exact ?v
theorem TY:a7 a1 95 TX:=bf {take:=[11]}
def T2:aX:=by
 have h:bb 98 {}=some ?v:=by conv=>lhs;cbv
 exact ?v
theorem CQ:a7 a1 98 T2:=bf {}
def Xr:aX:=by
 have h:bb 104 {live:=[([0,1,5,6],[])]}=some ?v:=by conv=>lhs;cbv
 exact ?v
theorem Xt:a7 a1 104 Xr:=bf {live:=[([0,1,5,6],[])]}
def Zh:aX:=by
 have h:bb 105 {}=some ?v:=by conv=>lhs;cbv
 exact ?v
theorem Zi:a7 a1 105 Zh:=bf {}
def VN:aX:=by
 have h:bb 108 {}=some ?v:=by conv=>lhs;cbv
 exact ?v
theorem Lj:a7 a1 108 VN:=bf {}
def T6:aX:=by
 have h:bb 110 {live:=[([0,1,12,13],[])]}=some ?v:=by conv=>lhs;cbv
 exact ?v
theorem T7:a7 a1 110 T6:=bf {live:=[([0,1,12,13],[])]}
def VO:aX:=by
 have h:bb 112 {}=some ?v:=by conv=>lhs;cbv
 exact ?v
theorem VP:a7 a1 112 VO:=bf {}
def T9:aX:=by
 have h:bb 120 {}=some ?v:=by conv=>lhs;cbv
 exact ?v
theorem alW:a7 a1 120 T9:=bf {}
def XA:aX:=by
 have h:bb 121 {}=some ?v:=by conv=>lhs;cbv
 exact ?v
theorem XB:a7 a1 121 XA:=bf {}
def XC:aX:=by
 have h:bb 122 {}=some ?v:=by conv=>lhs;cbv
 exact ?v
theorem XD:a7 a1 122 XC:=bf {}
def Ua:aX:=by
 have h:bb 124 {}=some ?v:=by conv=>lhs;cbv
 exact ?v
theorem Lc:a7 a1 124 Ua:=bf {}
def Ub:aX:=by
 have h:bb 128 {}=some ?v:=by conv=>lhs;cbv
 exact ?v
theorem Uc:a7 a1 128 Ub:=bf {}
def XH:aX:=by
 have h:bb 134 {}=some ?v:=by conv=>lhs;cbv
 exact ?v
theorem XI:a7 a1 134 XH:=bf {}
def XL:aX:=by
 have h:bb 138 {}=some ?v:=by conv=>lhs;cbv
 exact ?v
theorem XM:a7 a1 138 XL:=bf {}
def Zs:aX:=by
 have h:bb 142 {take:=[35,95],live:=[([0,3,4,20,21,22],[]),([0,3,4,7],[]),([0,3,4,7,8,56,57,58],[])]}=some ?v:=by
  apply aAf;apply ma Tryz.func142;repeat (first|apply mb|apply mc|apply me|apply mf|(conv=>lhs;cbv)|rfl)
 exact ?v
theorem Zt:a7 a1 142 Zs:=bf {take:=[35,95],live:=[([0,3,4,20,21,22],[]),([0,3,4,7],[]),([0,3,4,7,8,56,57,58],[])]}
def Uj:aX:=by
 have h:bb 150 {}=some ?v:=by conv=>lhs;cbv
 exact ?v
theorem alY:a7 a1 150 Uj:=bf {}
def Uk:aX:=by
 have h:bb 155 {}=some ?v:=by conv=>lhs;cbv
 exact ?v
theorem Ul:a7 a1 155 Uk:=bf {}
def XS:aX:=by
 have h:bb 157 {heap:=[2,5],objs:=[7,48],uV:=[59]}=some ?v:=by conv=>lhs;cbv
 exact ?v
theorem q7:a7 a1 157 XS:=bf {heap:=[2,5],objs:=[7,48],uV:=[59]}
def XW:aX:=by
 have h:bb 163 {take:=[107],live:=[([1,5,101,102,103],[1])]}=some ?v:=by
  apply aAf;apply ma Tryz.func163;repeat (first|apply mb|apply mc|apply me|apply mf|(conv=>lhs;cbv)|rfl)
 exact ?v
theorem p3:a7 a1 163 XW:=bf {take:=[107],live:=[([1,5,101,102,103],[1])]}
def V6:aX:=by
 have h:bb 165 {take:=[13],live:=[([3,7,8,9],[])]}=some ?v:=by conv=>lhs;cbv
 exact ?v
theorem V7:a7 a1 165 V6:=bf {take:=[13],live:=[([3,7,8,9],[])]}
def V8:aX:=by
 have h:bb 167 {take:=[20],live:=[([3,8,9,10],[])]}=some ?v:=by conv=>lhs;cbv
 exact ?v
theorem V9:a7 a1 167 V8:=bf {take:=[20],live:=[([3,8,9,10],[])]}
def XX:aX:=by
 have h:bb 168 {live:=[([0,6,7,8],[])]}=some ?v:=by conv=>lhs;cbv
 exact ?v
theorem XY:a7 a1 168 XX:=bf {live:=[([0,6,7,8],[])]}
def Uq:aX:=by
 have h:bb 177 {live:=[([0,1,7,8],[])]}=some ?v:=by conv=>lhs;cbv
 exact ?v
theorem Ur:a7 a1 177 Uq:=bf {live:=[([0,1,7,8],[])]}
def Us:aX:=by
 have h:bb 179 {}=some ?v:=by conv=>lhs;cbv
 exact ?v
theorem alZ:a7 a1 179 Us:=bf {}
def Ut:aX:=by
 have h:bb 181 {heap:=[3]}=some ?v:=by conv=>lhs;cbv
 exact ?v
theorem Uu:a7 a1 181 Ut:=bf {heap:=[3]}
def X3:aX:=by
 have h:bb 186 {}=some ?v:=by conv=>lhs;cbv
 exact ?v
theorem X4:a7 a1 186 X3:=bf {}
def Wj:aX:=by
 have h:bb 203 {live:=[([0,1,5,6,7,8,9],[]),([0,1,5,6,7,8,10],[])]}=some ?v:=by conv=>lhs;cbv
 exact ?v
theorem al4:a7 a1 203 Wj:=bf {live:=[([0,1,5,6,7,8,9],[]),([0,1,5,6,7,8,10],[])]}
def UD:aX:=by
 have h:bb 205 {take:=[8,12],heap:=[2],own:=true,uW:=[11]}=some ?v:=by conv=>lhs;cbv
 exact ?v
theorem UE:a7 a1 205 UD:=bf {take:=[8,12],heap:=[2],own:=true,uW:=[11]}
def X6:aX:=by
 have h:bb 206 {live:=[([0,1,2,3,8,9],[])]}=some ?v:=by
  apply aAf;apply ma Tryz.func206;repeat (first|apply mb|apply mc|apply me|apply mf|(conv=>lhs;cbv)|rfl)
 exact ?v
theorem amb:a7 a1 206 X6:=bf {live:=[([0,1,2,3,8,9],[])]}
def UF:aX:=by
 have h:bb 207 {}=some ?v:=by conv=>lhs;cbv
 exact ?v
theorem al0:a7 a1 207 UF:=bf {}
def X7:aX:=by
 have h:bb 209 {}=some ?v:=by conv=>lhs;cbv
 exact ?v
theorem X8:a7 a1 209 X7:=bf {}
def Wo:aX:=by
 have h:bb 211 {live:=[([0,1,5],[])]}=some ?v:=by conv=>lhs;cbv
 exact ?v
theorem Wp:a7 a1 211 Wo:=bf {live:=[([0,1,5],[])]}
def Wq:aX:=by
 have h:bb 215 {take:=[31],live:=[([0,3,9,10,11],[]),([6,25,26,27],[])]}=some ?v:=by conv=>lhs;cbv
 exact ?v
theorem CT:a7 a1 215 Wq:=bf {take:=[31],live:=[([0,3,9,10,11],[]),([6,25,26,27],[])]}
def Wr:aX:=by
 have h:bb 216 {live:=[([1,2,18,19,20],[])]}=some ?v:=by conv=>lhs;cbv
 exact ?v
theorem Ws:a7 a1 216 Wr:=bf {live:=[([1,2,18,19,20],[])]}
def Wt:aX:=by
 have h:bb 217 {take:=[30,54],live:=[([1,2,6,16,17,18],[2]),([1,6,39,40,41],[])]}=some ?v:=by conv=>lhs;cbv
 exact ?v
theorem Wu:a7 a1 217 Wt:=bf {take:=[30,54],live:=[([1,2,6,16,17,18],[2]),([1,6,39,40,41],[])]}
def Wv:aX:=by
 have h:bb 218 {live:=[([1,13,14,15],[])]}=some ?v:=by conv=>lhs;cbv
 exact ?v
theorem Ww:a7 a1 218 Wv:=bf {live:=[([1,13,14,15],[])]}
def UL:aX:=by
 have h:bb 228 {take:=[13]}=some ?v:=by conv=>lhs;cbv
 exact ?v
theorem UM:a7 a1 228 UL:=bf {take:=[13]}
def Z5:aX:=by
 have h:bb 247 {}=some ?v:=by conv=>lhs;cbv
 exact ?v
theorem amh:a7 a1 247 Z5:=bf {}
def Yd:aX:=by
 have h:bb 248 {}=some ?v:=by conv=>lhs;cbv
 exact ?v
theorem Ye:a7 a1 248 Yd:=bf {}
def UN:aX:=by
 have h:bb 258 {heap:=[3]}=some ?v:=by conv=>lhs;cbv
 exact ?v
theorem UO:a7 a1 258 UN:=bf {heap:=[3]}
def Yk:aX:=by
 have h:bb 263 {live:=[([0,1,2,6,7],[6,7])]}=some ?v:=by conv=>lhs;cbv
 exact ?v
theorem Yl:a7 a1 263 Yk:=bf {live:=[([0,1,2,6,7],[6,7])]}
def Yo:aX:=by
 have h:bb 269 {}=some ?v:=by conv=>lhs;cbv
 exact ?v
theorem Yp:a7 a1 269 Yo:=bf {}
def US:aX:=by
 have h:bb 283 {live:=[([0,1,7,8],[])]}=some ?v:=by conv=>lhs;cbv
 exact ?v
theorem UT:a7 a1 283 US:=bf {live:=[([0,1,7,8],[])]}
def UY:aX:=by
 have h:bb 296 {}=some ?v:=by conv=>lhs;cbv
 exact ?v
theorem UZ:a7 a1 296 UY:=bf {}
def YA:aX:=by
 have h:bb 305 {}=some ?v:=by conv=>lhs;cbv
 exact ?v
theorem YB:a7 a1 305 YA:=bf {}
end Go.Proofs.YtmgpekpnidjfoaaGreatDoor
