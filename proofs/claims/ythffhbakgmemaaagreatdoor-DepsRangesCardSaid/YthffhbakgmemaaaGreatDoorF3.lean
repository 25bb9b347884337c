/- Part of ranges_said. -/
import Derived.Test.YthffhbakgmemaaaGreatDoorP
set_option maxRecDepth 100000
set_option maxHeartbeats 8000000
namespace Go.Proofs.YthffhbakgmemaaaGreatDoor
open Go Go.aH
def aEQ:aX:=by
 have h:bb 3 {take:=[49],live:=[([1,5,7,8,22,23,24],[5])]}=some ?v:=by
  apply aAf;apply ma Tryz.func3;repeat (first|apply mb|apply mc|apply me|apply mf|(conv=>lhs;cbv)|rfl)
 exact ?v
theorem aDF:a7 a1 3 aEQ:=bf {take:=[49],live:=[([1,5,7,8,22,23,24],[5])]}
def WT:aX:=by
 have h:bb 5 {live:=[([3,6,24,25],[])]}=some ?v:=by conv=>lhs;cbv
 exact ?v
theorem al8:a7 a1 5 WT:=bf {live:=[([3,6,24,25],[])]}
def Tq:aX:=by
 have h:bb 6 {}=some ?v:=by conv=>lhs;cbv
 exact ?v
theorem Gb:a7 a1 6 Tq:=bf {}
def YG:aX:=by
 have h:bb 7 {take:=[28],live:=[([0,3,10,11,12],[]),([0,3,5,6,7,10,11,12],[6])]}=some ?v:=by conv=>lhs;cbv
 exact ?v
theorem YH:a7 a1 7 YG:=bf {take:=[28],live:=[([0,3,10,11,12],[]),([0,3,5,6,7,10,11,12],[6])]}
def aER:aX:=by
 have h:bb 9 {live:=[([0,1,12,13],[])]}=some ?v:=by conv=>lhs;cbv
 exact ?v
theorem aES:a7 a1 9 aER:=bf {live:=[([0,1,12,13],[])]}
def Tt:aX:=by
 have h:bb 13 {heap:=[2]}=some ?v:=by conv=>lhs;cbv
 exact ?v
theorem Tv:a7 a1 13 Tt:=bf {heap:=[2]}
def TE:aX:=by
 have h:bb 23 {}=some ?v:=by conv=>lhs;cbv
 exact ?v
theorem alU:a7 a1 23 TE:=bf {}
def WY:aX:=by
 have h:bb 24 {take:=[13],heap:=[1],live:=[([1,3,9,10],[])],uV:=[2],rK:=[18],uW:=[16]}=some ?v:=by conv=>lhs;cbv
 exact ?v
theorem WZ:a7 a1 24 WY:=bf {take:=[13],heap:=[1],live:=[([1,3,9,10],[])],uV:=[2],rK:=[18],uW:=[16]}
def Vc:aX:=by
 have h:bb 35 {}=some ?v:=by conv=>lhs;cbv
 exact ?v
theorem Le:a7 a1 35 Vc:=bf {}
def YP:aX:=by
 have h:bb 36 {}=some ?v:=by conv=>lhs;cbv
 exact ?v
theorem YQ:a7 a1 36 YP:=bf {}
def TG:aX:=by
 have h:bb 37 {}=some ?v:=by conv=>lhs;cbv
 exact ?v
theorem TH:a7 a1 37 TG:=bf {}
def Vf:aX:=by
 have h:bb 39 {live:=[([3,6,7,8],[])]}=some ?v:=by conv=>lhs;cbv
 exact ?v
theorem Lf:a7 a1 39 Vf:=bf {live:=[([3,6,7,8],[])]}
def TI:aX:=by
 have h:bb 40 {}=some ?v:=by conv=>lhs;cbv
 exact ?v
theorem TJ:a7 a1 40 TI:=bf {}
def YS:aX:=by
 have h:bb 45 {take:=[25],live:=[([2,5],[])]}=some ?v:=by conv=>lhs;cbv
 exact ?v
theorem YT:a7 a1 45 YS:=bf {take:=[25],live:=[([2,5],[])]}
def YU:aX:=by
 have h:bb 47 {take:=[35],live:=[([0,3,5,7,22,23,24],[3])]}=some ?v:=by
  apply aAf;apply ma Tryz.func47;repeat (first|apply mb|apply mc|apply me|apply mf|(conv=>lhs;cbv)|rfl)
 exact ?v
theorem YV:a7 a1 47 YU:=bf {take:=[35],live:=[([0,3,5,7,22,23,24],[3])]}
def TP:aX:=by
 have h:bb 57 {live:=[([0,1,2,3,4,10,11],[])]}=some ?v:=by
  apply aAf;apply ma Tryz.func57;repeat (first|apply mb|apply mc|apply me|apply mf|(conv=>lhs;cbv)|rfl)
 exact ?v
theorem TQ:a7 a1 57 TP:=bf {live:=[([0,1,2,3,4,10,11],[])]}
def Vo:aX:=by
 have h:bb 58 {}=some ?v:=by conv=>lhs;cbv
 exact ?v
theorem Vp:a7 a1 58 Vo:=bf {}
def Vq:aX:=by
 have h:bb 60 {}=some ?v:=by conv=>lhs;cbv
 exact ?v
theorem Vr:a7 a1 60 Vq:=bf {}
def Lt:aX:=by
 have h:bb 61 {heap:=[18]}=some ?v:=by conv=>lhs;cbv
 exact ?v
theorem Y1:a7 a1 61 Lt:=bf {heap:=[18]}
def K9:aX:=by
 have h:bb 62 {}=some ?v:=by conv=>lhs;cbv
 exact ?v
theorem TR:a7 a1 62 K9:=bf {}
def Za:aX:=by
 have h:bb 72 {live:=[([0,1,2,6,7,8],[]),([0,1,2,6],[]),([0,1,2,6,7,8],[])]}=some ?v:=by conv=>lhs;cbv
 exact ?v
theorem Zb:a7 a1 72 Za:=bf {live:=[([0,1,2,6,7,8],[]),([0,1,2,6],[]),([0,1,2,6,7,8],[])]}
def Zc:aX:=by
 have h:bb 75 {}=some ?v:=by conv=>lhs;cbv
 exact ?v
theorem Zd:a7 a1 75 Zc:=bf {}
def Xp:aX:=by
 have h:bb 101 {heap:=[11],live:=[([0,5,47,48,49],[5])]}=some ?v:=by conv=>lhs;cbv
 exact ?v
theorem Xq:a7 a1 101 Xp:=bf {heap:=[11],live:=[([0,5,47,48,49],[5])]}
def VL:aX:=by
 have h:bb 102 {take:=[24],live:=[([0,5,11,12,13],[])]}=some ?v:=by conv=>lhs;cbv
 exact ?v
theorem VM:a7 a1 102 VL:=bf {take:=[24],live:=[([0,5,11,12,13],[])]}
def Ua:aX:=by
 have h:bb 124 {}=some ?v:=by conv=>lhs;cbv
 exact ?v
theorem Lc:a7 a1 124 Ua:=bf {}
def Ub:aX:=by
 have h:bb 128 {heap:=[1,3]}=some ?v:=by conv=>lhs;cbv
 exact ?v
theorem Uc:a7 a1 128 Ub:=bf {heap:=[1,3]}
def XH:aX:=by
 have h:bb 134 {}=some ?v:=by conv=>lhs;cbv
 exact ?v
theorem XI:a7 a1 134 XH:=bf {}
def XP:aX:=by
 have h:bb 140 {live:=[([0,1,12,13],[])]}=some ?v:=by conv=>lhs;cbv
 exact ?v
theorem Lp:a7 a1 140 XP:=bf {live:=[([0,1,12,13],[])]}
def Zv:aX:=by
 have h:bb 144 {live:=[([3,15,16,17],[])]}=some ?v:=by conv=>lhs;cbv
 exact ?v
theorem Zw:a7 a1 144 Zv:=bf {live:=[([3,15,16,17],[])]}
def VY:aX:=by
 have h:bb 147 {}=some ?v:=by conv=>lhs;cbv
 exact ?v
theorem VZ:a7 a1 147 VY:=bf {}
def V0:aX:=by
 have h:bb 153 {rK:=[6]}=some ?v:=by conv=>lhs;cbv
 exact ?v
theorem V1:a7 a1 153 V0:=bf {rK:=[6]}
def ZC:aX:=by
 have h:bb 154 {heap:=[1]}=some ?v:=by conv=>lhs;cbv
 exact ?v
theorem ZD:a7 a1 154 ZC:=bf {heap:=[1]}
def ZF:aX:=by
 have h:bb 158 {take:=[76],live:=[([1,2,3,10,59,60,61],[3])]}=some ?v:=by
  apply aAf;apply ma Tryz.func158;repeat (first|apply mb|apply mc|apply me|apply mf|(conv=>lhs;cbv)|rfl)
 exact ?v
theorem ZG:a7 a1 158 ZF:=bf {take:=[76],live:=[([1,2,3,10,59,60,61],[3])]}
def V2:aX:=by
 have h:bb 159 {}=some ?v:=by conv=>lhs;cbv
 exact ?v
theorem V3:a7 a1 159 V2:=bf {}
def ZL:aX:=by
 have h:bb 171 {}=some ?v:=by conv=>lhs;cbv
 exact ?v
theorem ZM:a7 a1 171 ZL:=bf {}
def Um:aX:=by
 have h:bb 174 {heap:=[2,5],objs:=[7,48],uV:=[59]}=some ?v:=by
  apply aAf;apply ma Tryz.func174;repeat (first|apply mb|apply mc|apply me|apply mf|(conv=>lhs;cbv)|rfl)
 exact ?v
theorem Un:a7 a1 174 Um:=bf {heap:=[2,5],objs:=[7,48],uV:=[59]}
def aET:aX:=by
 have h:bb 184 {take:=[20,23,28],live:=[([3,8,9,10],[])]}=some ?v:=by conv=>lhs;cbv
 exact ?v
theorem aEU:a7 a1 184 aET:=bf {take:=[20,23,28],live:=[([3,8,9,10],[])]}
def ZY:aX:=by
 have h:bb 193 {}=some ?v:=by conv=>lhs;cbv
 exact ?v
theorem CV:a7 a1 193 ZY:=bf {}
def aEV:aX:=by
 have h:bb 195 {}=some ?v:=by conv=>lhs;cbv
 exact ?v
theorem aEW:a7 a1 195 aEV:=bf {}
def ZZ:aX:=by
 have h:bb 202 {live:=[([0,5,6,7],[])]}=some ?v:=by conv=>lhs;cbv
 exact ?v
theorem amg:a7 a1 202 ZZ:=bf {live:=[([0,5,6,7],[])]}
def UD:aX:=by
 have h:bb 205 {}=some ?v:=by
  apply aAf;apply ma Tryz.func205;repeat (first|apply mb|apply mc|apply me|apply mf|(conv=>lhs;cbv)|rfl)
 exact ?v
theorem UE:a7 a1 205 UD:=bf {}
def Wq:aX:=by
 have h:bb 215 {}=some ?v:=by conv=>lhs;cbv
 exact ?v
theorem CT:a7 a1 215 Wq:=bf {}
def Wt:aX:=by
 have h:bb 217 {heap:=[2,3],objs:=[14,26]}=some ?v:=by conv=>lhs;cbv
 exact ?v
theorem Wu:a7 a1 217 Wt:=bf {heap:=[2,3],objs:=[14,26]}
def Wv:aX:=by
 have h:bb 218 {heap:=[2,3]}=some ?v:=by conv=>lhs;cbv
 exact ?v
theorem Ww:a7 a1 218 Wv:=bf {heap:=[2,3]}
def aEX:aX:=by
 have h:bb 219 {heap:=[2,3]}=some ?v:=by conv=>lhs;cbv
 exact ?v
theorem aDG:a7 a1 219 aEX:=bf {heap:=[2,3]}
def aEY:aX:=by
 have h:bb 220 {live:=[([0,1,7,8],[])]}=some ?v:=by conv=>lhs;cbv
 exact ?v
theorem aDH:a7 a1 220 aEY:=bf {live:=[([0,1,7,8],[])]}
def aEZ:aX:=by
 have h:bb 223 {}=some ?v:=by conv=>lhs;cbv
 exact ?v
theorem aE0:a7 a1 223 aEZ:=bf {}
def UL:aX:=by
 have h:bb 228 {take:=[20],live:=[([3,8,9,10],[])]}=some ?v:=by conv=>lhs;cbv
 exact ?v
theorem UM:a7 a1 228 UL:=bf {take:=[20],live:=[([3,8,9,10],[])]}
def aE1:aX:=by
 have h:bb 229 {live:=[([0,6,7,8],[])]}=some ?v:=by conv=>lhs;cbv
 exact ?v
theorem aE2:a7 a1 229 aE1:=bf {live:=[([0,6,7,8],[])]}
def aE3:aX:=by
 have h:bb 232 {live:=[([1,2,7,8],[])]}=some ?v:=by conv=>lhs;cbv
 exact ?v
theorem aE4:a7 a1 232 aE3:=bf {live:=[([1,2,7,8],[])]}
def Wx:aX:=by
 have h:bb 234 {live:=[([3,15,16,17],[])]}=some ?v:=by conv=>lhs;cbv
 exact ?v
theorem al5:a7 a1 234 Wx:=bf {live:=[([3,15,16,17],[])]}
def aE5:aX:=by
 have h:bb 239 {live:=[([0,1,7,8],[])]}=some ?v:=by conv=>lhs;cbv
 exact ?v
theorem aE6:a7 a1 239 aE5:=bf {live:=[([0,1,7,8],[])]}
def aE7:aX:=by
 have h:bb 240 {}=some ?v:=by conv=>lhs;cbv
 exact ?v
theorem aE8:a7 a1 240 aE7:=bf {}
def Yi:aX:=by
 have h:bb 259 {take:=[15]}=some ?v:=by conv=>lhs;cbv
 exact ?v
theorem Yj:a7 a1 259 Yi:=bf {take:=[15]}
def aE9:aX:=by
 have h:bb 265 {}=some ?v:=by conv=>lhs;cbv
 exact ?v
theorem aE':a7 a1 265 aE9:=bf {}
def aFa:aX:=by
 have h:bb 287 {}=some ?v:=by conv=>lhs;cbv
 exact ?v
theorem aFb:a7 a1 287 aFa:=bf {}
def Yu:aX:=by
 have h:bb 288 {take:=[12],live:=[([3,6,7,8],[])]}=some ?v:=by conv=>lhs;cbv
 exact ?v
theorem Yv:a7 a1 288 Yu:=bf {take:=[12],live:=[([3,6,7,8],[])]}
def aFc:aX:=by
 have h:bb 291 {}=some ?v:=by conv=>lhs;cbv
 exact ?v
theorem aFd:a7 a1 291 aFc:=bf {}
def U0:aX:=by
 have h:bb 298 {}=some ?v:=by conv=>lhs;cbv
 exact ?v
theorem U1:a7 a1 298 U0:=bf {}
def aFe:aX:=by
 have h:bb 312 {live:=[([0,6,9,10,11],[])]}=some ?v:=by conv=>lhs;cbv
 exact ?v
theorem aFf:a7 a1 312 aFe:=bf {live:=[([0,6,9,10,11],[])]}
def aFg:aX:=by
 have h:bb 333 {}=some ?v:=by conv=>lhs;cbv
 exact ?v
theorem aFh:a7 a1 333 aFg:=bf {}
def aFi:aX:=by
 have h:bb 335 {}=some ?v:=by conv=>lhs;cbv
 exact ?v
theorem aFj:a7 a1 335 aFi:=bf {}
def aFk:aX:=by
 have h:bb 336 {live:=[([0,1,7,8],[])]}=some ?v:=by conv=>lhs;cbv
 exact ?v
theorem aFl:a7 a1 336 aFk:=bf {live:=[([0,1,7,8],[])]}
def aFm:aX:=by
 have h:bb 338 {}=some ?v:=by conv=>lhs;cbv
 exact ?v
theorem aFn:a7 a1 338 aFm:=bf {}
def aFo:aX:=by
 have h:bb 349 {}=some ?v:=by conv=>lhs;cbv
 exact ?v
theorem aFp:a7 a1 349 aFo:=bf {}
end Go.Proofs.YthffhbakgmemaaaGreatDoor
