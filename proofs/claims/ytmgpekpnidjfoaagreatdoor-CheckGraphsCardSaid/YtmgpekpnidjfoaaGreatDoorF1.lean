/- Part of graphs_said. -/
import Derived.Test.YtmgpekpnidjfoaaGreatDoorP
set_option maxRecDepth 100000
set_option maxHeartbeats 8000000
namespace Go.Proofs.YtmgpekpnidjfoaaGreatDoor
open Go Go.aH
def Tp:aX:=by
 have h:bb 4 {take:=[94],live:=[([3,6,9,12,77,78,79],[]),([3,6,9,12,13,15,77,78,79,88,89,90],[]),([3,6,9,12,15,18,77,78,79,105,106,107],[]),([3,6,9,12,18,77,78,79,116,117,118],[]),([3,6,9,129,130,131],[]),([9,25,26,152,153,154],[]),([9,25,26,152,153,154,205,206,207],[])]}=some ?v:=by
  apply aAf;apply ma Tryz.func4;repeat (first|apply mb|apply mc|apply me|apply mf|(conv=>lhs;cbv)|rfl)
 exact ?v
theorem Ga:a7 a1 4 Tp:=bf {take:=[94],live:=[([3,6,9,12,77,78,79],[]),([3,6,9,12,13,15,77,78,79,88,89,90],[]),([3,6,9,12,15,18,77,78,79,105,106,107],[]),([3,6,9,12,18,77,78,79,116,117,118],[]),([3,6,9,129,130,131],[]),([9,25,26,152,153,154],[]),([9,25,26,152,153,154,205,206,207],[])]}
def Tq:aX:=by
 have h:bb 6 {}=some ?v:=by conv=>lhs;cbv
 exact ?v
theorem Gb:a7 a1 6 Tq:=bf {}
def YG:aX:=by
 have h:bb 7 {take:=[25],live:=[([2,5],[])]}=some ?v:=by conv=>lhs;cbv
 exact ?v
theorem YH:a7 a1 7 YG:=bf {take:=[25],live:=[([2,5],[])]}
def YI:aX:=by
 have h:bb 14 {live:=[([0,1,5],[])]}=some ?v:=by conv=>lhs;cbv
 exact ?v
theorem YJ:a7 a1 14 YI:=bf {live:=[([0,1,5],[])]}
def W0:aX:=by
 have h:bb 32 {}=some ?v:=by conv=>lhs;cbv
 exact ?v
theorem W1:a7 a1 32 W0:=bf {}
def Va:aX:=by
 have h:bb 33 {}=some ?v:=by conv=>lhs;cbv
 exact ?v
theorem Vb:a7 a1 33 Va:=bf {}
def Vd:aX:=by
 have h:bb 38 {}=some ?v:=by conv=>lhs;cbv
 exact ?v
theorem Ve:a7 a1 38 Vd:=bf {}
def Vf:aX:=by
 have h:bb 39 {}=some ?v:=by conv=>lhs;cbv
 exact ?v
theorem Lf:a7 a1 39 Vf:=bf {}
def Vg:aX:=by
 have h:bb 41 {}=some ?v:=by conv=>lhs;cbv
 exact ?v
theorem Vh:a7 a1 41 Vg:=bf {}
def YS:aX:=by
 have h:bb 45 {live:=[([3,15,16,17],[])]}=some ?v:=by conv=>lhs;cbv
 exact ?v
theorem YT:a7 a1 45 YS:=bf {live:=[([3,15,16,17],[])]}
def YU:aX:=by
 have h:bb 47 {live:=[([0,3,6,7,8],[])]}=some ?v:=by conv=>lhs;cbv
 exact ?v
theorem YV:a7 a1 47 YU:=bf {live:=[([0,3,6,7,8],[])]}
def Vk:aX:=by
 have h:bb 48 {}=some ?v:=by conv=>lhs;cbv
 exact ?v
theorem Vl:a7 a1 48 Vk:=bf {}
def W6:aX:=by
 have h:bb 54 {heap:=[1,3]}=some ?v:=by conv=>lhs;cbv
 exact ?v
theorem W7:a7 a1 54 W6:=bf {heap:=[1,3]}
def Vm:aX:=by
 have h:bb 56 {}=some ?v:=by conv=>lhs;cbv
 exact ?v
theorem Vn:a7 a1 56 Vm:=bf {}
def Vq:aX:=by
 have h:bb 60 {}=some ?v:=by conv=>lhs;cbv
 exact ?v
theorem Vr:a7 a1 60 Vq:=bf {}
def Y2:aX:=by
 have h:bb 63 {}=some ?v:=by conv=>lhs;cbv
 exact ?v
theorem Y3:a7 a1 63 Y2:=bf {}
def Y6:aX:=by
 have h:bb 65 {}=some ?v:=by conv=>lhs;cbv
 exact ?v
theorem Lu:a7 a1 65 Y6:=bf {}
def Y9:aX:=by
 have h:bb 69 {live:=[([0,1,12,13],[])]}=some ?v:=by conv=>lhs;cbv
 exact ?v
theorem Y':a7 a1 69 Y9:=bf {live:=[([0,1,12,13],[])]}
def Vv:aX:=by
 have h:bb 71 {}=some ?v:=by conv=>lhs;cbv
 exact ?v
theorem Vw:a7 a1 71 Vv:=bf {}
def W9:aX:=by
 have h:bb 74 {}=some ?v:=by conv=>lhs;cbv
 exact ?v
theorem Xa:a7 a1 74 W9:=bf {}
def Vx:aX:=by
 have h:bb 76 {}=some ?v:=by conv=>lhs;cbv
 exact ?v
theorem Vy:a7 a1 76 Vx:=bf {}
def VB:aX:=by
 have h:bb 79 {}=some ?v:=by conv=>lhs;cbv
 exact ?v
theorem Lh:a7 a1 79 VB:=bf {}
def Xf:aX:=by
 have h:bb 84 {heap:=[11],live:=[([0,5,47,48,49],[5])]}=some ?v:=by conv=>lhs;cbv
 exact ?v
theorem Xg:a7 a1 84 Xf:=bf {heap:=[11],live:=[([0,5,47,48,49],[5])]}
def Xh:aX:=by
 have h:bb 86 {take:=[74],heap:=[30,6],live:=[([6,31,32,33],[]),([6,7,31,32,33,57,58,59],[])]}=some ?v:=by
  apply aAf;apply ma Tryz.func86;repeat (first|apply mb|apply mc|apply me|apply mf|(conv=>lhs;cbv)|rfl)
 exact ?v
theorem Xi:a7 a1 86 Xh:=bf {take:=[74],heap:=[30,6],live:=[([6,31,32,33],[]),([6,7,31,32,33,57,58,59],[])]}
def VE:aX:=by
 have h:bb 88 {heap:=[3]}=some ?v:=by conv=>lhs;cbv
 exact ?v
theorem Li:a7 a1 88 VE:=bf {heap:=[3]}
def VF:aX:=by
 have h:bb 92 {}=some ?v:=by conv=>lhs;cbv
 exact ?v
theorem VG:a7 a1 92 VF:=bf {}
def VH:aX:=by
 have h:bb 93 {}=some ?v:=by conv=>lhs;cbv
 exact ?v
theorem VI:a7 a1 93 VH:=bf {}
def T0:aX:=by
 have h:bb 96 {}=some ?v:=by conv=>lhs;cbv
 exact ?v
theorem T1:a7 a1 96 T0:=bf {}
def VL:aX:=by
 have h:bb 102 {heap:=[1,3]}=some ?v:=by conv=>lhs;cbv
 exact ?v
theorem VM:a7 a1 102 VL:=bf {heap:=[1,3]}
def Zj:aX:=by
 have h:bb 111 {live:=[([1,2,15,16,17],[])]}=some ?v:=by conv=>lhs;cbv
 exact ?v
theorem Zk:a7 a1 111 Zj:=bf {live:=[([1,2,15,16,17],[])]}
def Zl:aX:=by
 have h:bb 115 {live:=[([0,1,12,13],[])]}=some ?v:=by conv=>lhs;cbv
 exact ?v
theorem Zm:a7 a1 115 Zl:=bf {live:=[([0,1,12,13],[])]}
def T':aX:=by
 have h:bb 123 {take:=[16],live:=[([1,2,9,10,11],[1,2])]}=some ?v:=by conv=>lhs;cbv
 exact ?v
theorem alX:a7 a1 123 T':=bf {take:=[16],live:=[([1,2,9,10,11],[1,2])]}
def VU:aX:=by
 have h:bb 127 {}=some ?v:=by conv=>lhs;cbv
 exact ?v
theorem Lk:a7 a1 127 VU:=bf {}
def XF:aX:=by
 have h:bb 129 {}=some ?v:=by conv=>lhs;cbv
 exact ?v
theorem XG:a7 a1 129 XF:=bf {}
def Uf:aX:=by
 have h:bb 133 {}=some ?v:=by conv=>lhs;cbv
 exact ?v
theorem Ug:a7 a1 133 Uf:=bf {}
def VW:aX:=by
 have h:bb 135 {}=some ?v:=by conv=>lhs;cbv
 exact ?v
theorem VX:a7 a1 135 VW:=bf {}
def Zu:aX:=by
 have h:bb 143 {live:=[([0,1,7,8],[])]}=some ?v:=by conv=>lhs;cbv
 exact ?v
theorem Lx:a7 a1 143 Zu:=bf {live:=[([0,1,7,8],[])]}
def XQ:aX:=by
 have h:bb 148 {}=some ?v:=by conv=>lhs;cbv
 exact ?v
theorem al':a7 a1 148 XQ:=bf {}
def V0:aX:=by
 have h:bb 153 {live:=[([0,5],[])]}=some ?v:=by conv=>lhs;cbv
 exact ?v
theorem V1:a7 a1 153 V0:=bf {live:=[([0,5],[])]}
def V2:aX:=by
 have h:bb 159 {take:=[2]}=some ?v:=by conv=>lhs;cbv
 exact ?v
theorem V3:a7 a1 159 V2:=bf {take:=[2]}
def V':aX:=by
 have h:bb 170 {}=some ?v:=by conv=>lhs;cbv
 exact ?v
theorem al3:a7 a1 170 V':=bf {}
def Um:aX:=by
 have h:bb 174 {}=some ?v:=by conv=>lhs;cbv
 exact ?v
theorem Un:a7 a1 174 Um:=bf {}
def ZW:aX:=by
 have h:bb 191 {take:=[3,14]}=some ?v:=by conv=>lhs;cbv
 exact ?v
theorem ZX:a7 a1 191 ZW:=bf {take:=[3,14]}
def Wf:aX:=by
 have h:bb 192 {heap:=[2,3],objs:=[14,26]}=some ?v:=by conv=>lhs;cbv
 exact ?v
theorem Wg:a7 a1 192 Wf:=bf {heap:=[2,3],objs:=[14,26]}
def ZY:aX:=by
 have h:bb 193 {heap:=[2,3]}=some ?v:=by conv=>lhs;cbv
 exact ?v
theorem CV:a7 a1 193 ZY:=bf {heap:=[2,3]}
def X5:aX:=by
 have h:bb 194 {heap:=[2,3]}=some ?v:=by conv=>lhs;cbv
 exact ?v
theorem Lr:a7 a1 194 X5:=bf {heap:=[2,3]}
def Ux:aX:=by
 have h:bb 197 {}=some ?v:=by conv=>lhs;cbv
 exact ?v
theorem Uy:a7 a1 197 Ux:=bf {}
def Uz:aX:=by
 have h:bb 198 {}=some ?v:=by conv=>lhs;cbv
 exact ?v
theorem UA:a7 a1 198 Uz:=bf {}
def UB:aX:=by
 have h:bb 199 {live:=[([0,1,2,3,10],[])]}=some ?v:=by
  apply aAf;apply ma Tryz.func199;repeat (first|apply mb|apply mc|apply me|apply mf|(conv=>lhs;cbv)|rfl)
 exact ?v
theorem UC:a7 a1 199 UB:=bf {live:=[([0,1,2,3,10],[])]}
def Z0:aX:=by
 have h:bb 204 {}=some ?v:=by conv=>lhs;cbv
 exact ?v
theorem Z1:a7 a1 204 Z0:=bf {}
def Wx:aX:=by
 have h:bb 234 {live:=[([0,4,5],[]),([4,6,7,8],[])]}=some ?v:=by conv=>lhs;cbv
 exact ?v
theorem al5:a7 a1 234 Wx:=bf {live:=[([0,4,5],[]),([4,6,7,8],[])]}
def WA:aX:=by
 have h:bb 236 {}=some ?v:=by conv=>lhs;cbv
 exact ?v
theorem WB:a7 a1 236 WA:=bf {}
def Yc:aX:=by
 have h:bb 237 {live:=[([0,1,2,6],[]),([0,1,2,6,7],[])]}=some ?v:=by
  apply aAf;apply ma Tryz.func237;repeat (first|apply mb|apply mc|apply me|apply mf|(conv=>lhs;cbv)|rfl)
 exact ?v
theorem amc:a7 a1 237 Yc:=bf {live:=[([0,1,2,6],[]),([0,1,2,6,7],[])]}
def Z8:aX:=by
 have h:bb 253 {live:=[([3,7,8,9],[])]}=some ?v:=by conv=>lhs;cbv
 exact ?v
theorem Z9:a7 a1 253 Z8:=bf {live:=[([3,7,8,9],[])]}
def Z':aX:=by
 have h:bb 254 {take:=[69],live:=[([1,2,3,10,52,53,54],[3])]}=some ?v:=by conv=>lhs;cbv
 exact ?v
theorem aac:a7 a1 254 Z':=bf {take:=[69],live:=[([1,2,3,10,52,53,54],[3])]}
def WD:aX:=by
 have h:bb 255 {}=some ?v:=by conv=>lhs;cbv
 exact ?v
theorem WE:a7 a1 255 WD:=bf {}
def aad:aX:=by
 have h:bb 276 {live:=[([0,1,7,8],[])]}=some ?v:=by conv=>lhs;cbv
 exact ?v
theorem aae:a7 a1 276 aad:=bf {live:=[([0,1,7,8],[])]}
def UQ:aX:=by
 have h:bb 281 {live:=[([0,6,9,10,11],[])]}=some ?v:=by conv=>lhs;cbv
 exact ?v
theorem UR:a7 a1 281 UQ:=bf {live:=[([0,6,9,10,11],[])]}
def WJ:aX:=by
 have h:bb 284 {}=some ?v:=by conv=>lhs;cbv
 exact ?v
theorem WK:a7 a1 284 WJ:=bf {}
def aag:aX:=by
 have h:bb 297 {live:=[([0,1,7,8],[])]}=some ?v:=by conv=>lhs;cbv
 exact ?v
theorem aah:a7 a1 297 aag:=bf {live:=[([0,1,7,8],[])]}
def U2:aX:=by
 have h:bb 301 {}=some ?v:=by conv=>lhs;cbv
 exact ?v
theorem U3:a7 a1 301 U2:=bf {}
def aao:aX:=by
 have h:bb 308 {}=some ?v:=by conv=>lhs;cbv
 exact ?v
theorem aap:a7 a1 308 aao:=bf {}
end Go.Proofs.YtmgpekpnidjfoaaGreatDoor
