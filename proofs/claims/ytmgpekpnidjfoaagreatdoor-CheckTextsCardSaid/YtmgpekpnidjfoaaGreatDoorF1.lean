/- Part of texts_said. -/
import Derived.Test.YtmgpekpnidjfoaaGreatDoorP
set_option maxRecDepth 100000
set_option maxHeartbeats 8000000
namespace Go.Proofs.YtmgpekpnidjfoaaGreatDoor
open Go Go.aJ
def SK:aX:=by
 have h:bf 10 {}=some ?v:=by conv=>lhs;cbv
 exact ?v
theorem SL:a7 a1.prog 10 SK:=bg {}
def SM:aX:=by
 have h:bf 17 {take:=[13],heap:=[1],live:=[([1,3,9,10],[])],uj:=[2],q9:=[18],uk:=[16]}=some ?v:=by conv=>lhs;cbv
 exact ?v
theorem SN:a7 a1.prog 17 SM:=bg {take:=[13],heap:=[1],live:=[([1,3,9,10],[])],uj:=[2],q9:=[18],uk:=[16]}
def SP:aX:=by
 have h:bf 22 {}=some ?v:=by conv=>lhs;cbv
 exact ?v
theorem akE:a7 a1.prog 22 SP:=bg {}
def SQ:aX:=by
 have h:bf 23 {take:=[15],live:=[([3,9,10,11],[])]}=some ?v:=by conv=>lhs;cbv
 exact ?v
theorem akF:a7 a1.prog 23 SQ:=bg {take:=[15],live:=[([3,9,10,11],[])]}
def SR:aX:=by
 have h:bf 37 {}=some ?v:=by conv=>lhs;cbv
 exact ?v
theorem SS:a7 a1.prog 37 SR:=bg {}
def SU:aX:=by
 have h:bf 39 {}=some ?v:=by conv=>lhs;cbv
 exact ?v
theorem KA:a7 a1.prog 39 SU:=bg {}
def SV:aX:=by
 have h:bf 49 {live:=[([0,4,5,12,13,14],[])]}=some ?v:=by conv=>lhs;cbv
 exact ?v
theorem SW:a7 a1.prog 49 SV:=bg {live:=[([0,4,5,12,13,14],[])]}
def SX:aX:=by
 have h:bf 51 {take:=[50],live:=[([0,18,19,20],[]),([0,5,6,7,18,19,20,37,38,39],[])]}=some ?v:=by conv=>lhs;cbv
 exact ?v
theorem SY:a7 a1.prog 51 SX:=bg {take:=[50],live:=[([0,18,19,20],[]),([0,5,6,7,18,19,20,37,38,39],[])]}
def SZ:aX:=by
 have h:bf 60 {}=some ?v:=by conv=>lhs;cbv
 exact ?v
theorem S0:a7 a1.prog 60 SZ:=bg {}
def KB:aX:=by
 have h:bf 61 {}=some ?v:=by conv=>lhs;cbv
 exact ?v
theorem S1:a7 a1.prog 61 KB:=bg {}
def KC:aX:=by
 have h:bf 62 {objs:=[43]}=some ?v:=by conv=>lhs;cbv
 exact ?v
theorem S2:a7 a1.prog 62 KC:=bg {objs:=[43]}
def S3:aX:=by
 have h:bf 69 {live:=[([0,1,12,13],[])]}=some ?v:=by conv=>lhs;cbv
 exact ?v
theorem S4:a7 a1.prog 69 S3:=bg {live:=[([0,1,12,13],[])]}
def S5:aX:=by
 have h:bf 71 {}=some ?v:=by conv=>lhs;cbv
 exact ?v
theorem S6:a7 a1.prog 71 S5:=bg {}
def S7:aX:=by
 have h:bf 72 {heap:=[3,4,5]}=some ?v:=by conv=>lhs;cbv
 exact ?v
theorem S8:a7 a1.prog 72 S7:=bg {heap:=[3,4,5]}
def S9:aX:=by
 have h:bf 76 {}=some ?v:=by conv=>lhs;cbv
 exact ?v
theorem S':a7 a1.prog 76 S9:=bg {}
def Ta:aX:=by
 have h:bf 90 {live:=[([0,1],[])]}=some ?v:=by conv=>lhs;cbv
 exact ?v
theorem Tb:a7 a1.prog 90 Ta:=bg {live:=[([0,1],[])]}
def Tc:aX:=by
 have h:bf 94 {live:=[([0,1],[])]}=some ?v:=by conv=>lhs;cbv
 exact ?v
theorem u7:a7 a1.prog 94 Tc:=bg {live:=[([0,1],[])]}
def Td:aX:=by
 have h:bf 107 {objs:=[21,27,34,41,50,55,69]}=some ?v:=by conv=>lhs;cbv
 exact ?v
theorem Te:a7 a1.prog 107 Td:=bg {objs:=[21,27,34,41,50,55,69]}
def Tf:aX:=by
 have h:bf 111 {live:=[([1,2,15,16,17],[])]}=some ?v:=by conv=>lhs;cbv
 exact ?v
theorem Tg:a7 a1.prog 111 Tf:=bg {live:=[([1,2,15,16,17],[])]}
def Ti:aX:=by
 have h:bf 115 {live:=[([0,1,12,13],[])]}=some ?v:=by conv=>lhs;cbv
 exact ?v
theorem Tj:a7 a1.prog 115 Ti:=bg {live:=[([0,1,12,13],[])]}
def Tk:aX:=by
 have h:bf 117 {live:=[([0,1,2,3,8],[]),([0,1,2,3,8,9],[])]}=some ?v:=by
  apply azK;apply mC Tryz.func117;repeat (first|apply mD|apply mE|apply mF|apply mG|(conv=>lhs;cbv)|rfl)
 exact ?v
theorem KD:a7 a1.prog 117 Tk:=bg {live:=[([0,1,2,3,8],[]),([0,1,2,3,8,9],[])]}
def Tl:aX:=by
 have h:bf 118 {live:=[([0,1,4,10,11],[]),([0,10,13],[]),([0,2,4,14,15],[]),([0,14,17],[]),([0,1,2,3,4,18,19,20,21,22],[])]}=some ?v:=by
  apply azK;apply mC Tryz.func118;repeat (first|apply mD|apply mE|apply mF|apply mG|(conv=>lhs;cbv)|rfl)
 exact ?v
theorem Tm:a7 a1.prog 118 Tl:=bg {live:=[([0,1,4,10,11],[]),([0,10,13],[]),([0,2,4,14,15],[]),([0,14,17],[]),([0,1,2,3,4,18,19,20,21,22],[])]}
def Tn:aX:=by
 have h:bf 120 {}=some ?v:=by conv=>lhs;cbv
 exact ?v
theorem akG:a7 a1.prog 120 Tn:=bg {}
def To:aX:=by
 have h:bf 124 {}=some ?v:=by conv=>lhs;cbv
 exact ?v
theorem KE:a7 a1.prog 124 To:=bg {}
def Tp:aX:=by
 have h:bf 128 {}=some ?v:=by conv=>lhs;cbv
 exact ?v
theorem Tq:a7 a1.prog 128 Tp:=bg {}
def Tr:aX:=by
 have h:bf 138 {}=some ?v:=by conv=>lhs;cbv
 exact ?v
theorem Ts:a7 a1.prog 138 Tr:=bg {}
def Tt:aX:=by
 have h:bf 142 {take:=[35,95],live:=[([0,3,4,20,21,22],[]),([0,3,4,7],[]),([0,3,4,7,8,56,57,58],[])]}=some ?v:=by
  apply azK;apply mC Tryz.func142;repeat (first|apply mD|apply mE|apply mF|apply mG|(conv=>lhs;cbv)|rfl)
 exact ?v
theorem Tv:a7 a1.prog 142 Tt:=bg {take:=[35,95],live:=[([0,3,4,20,21,22],[]),([0,3,4,7],[]),([0,3,4,7,8,56,57,58],[])]}
def Tw:aX:=by
 have h:bf 145 {live:=[([3,7,8,9],[])]}=some ?v:=by conv=>lhs;cbv
 exact ?v
theorem Tx:a7 a1.prog 145 Tw:=bg {live:=[([3,7,8,9],[])]}
def Ty:aX:=by
 have h:bf 147 {live:=[([0,1,2],[])]}=some ?v:=by conv=>lhs;cbv
 exact ?v
theorem Tz:a7 a1.prog 147 Ty:=bg {live:=[([0,1,2],[])]}
def TA:aX:=by
 have h:bf 148 {}=some ?v:=by conv=>lhs;cbv
 exact ?v
theorem akH:a7 a1.prog 148 TA:=bg {}
def TB:aX:=by
 have h:bf 150 {}=some ?v:=by conv=>lhs;cbv
 exact ?v
theorem akI:a7 a1.prog 150 TB:=bg {}
def TC:aX:=by
 have h:bf 158 {}=some ?v:=by conv=>lhs;cbv
 exact ?v
theorem TD:a7 a1.prog 158 TC:=bg {}
def TE:aX:=by
 have h:bf 162 {}=some ?v:=by conv=>lhs;cbv
 exact ?v
theorem TF:a7 a1.prog 162 TE:=bg {}
def TG:aX:=by
 have h:bf 166 {take:=[13],live:=[([3,7,8,9],[])]}=some ?v:=by conv=>lhs;cbv
 exact ?v
theorem TH:a7 a1.prog 166 TG:=bg {take:=[13],live:=[([3,7,8,9],[])]}
def TI:aX:=by
 have h:bf 168 {live:=[([0,6,7,8],[])]}=some ?v:=by conv=>lhs;cbv
 exact ?v
theorem TJ:a7 a1.prog 168 TI:=bg {live:=[([0,6,7,8],[])]}
def TK:aX:=by
 have h:bf 169 {live:=[([0,2,4,10,11],[])]}=some ?v:=by conv=>lhs;cbv
 exact ?v
theorem TL:a7 a1.prog 169 TK:=bg {live:=[([0,2,4,10,11],[])]}
def TM:aX:=by
 have h:bf 174 {}=some ?v:=by conv=>lhs;cbv
 exact ?v
theorem TN:a7 a1.prog 174 TM:=bg {}
def TP:aX:=by
 have h:bf 177 {live:=[([0,1,7,8],[])]}=some ?v:=by conv=>lhs;cbv
 exact ?v
theorem TQ:a7 a1.prog 177 TP:=bg {live:=[([0,1,7,8],[])]}
def TR:aX:=by
 have h:bf 179 {}=some ?v:=by conv=>lhs;cbv
 exact ?v
theorem akJ:a7 a1.prog 179 TR:=bg {}
def KF:aX:=by
 have h:bf 180 {live:=[([0,5,6,7],[])]}=some ?v:=by conv=>lhs;cbv
 exact ?v
theorem TS:a7 a1.prog 180 KF:=bg {live:=[([0,5,6,7],[])]}
def TT:aX:=by
 have h:bf 181 {heap:=[3]}=some ?v:=by conv=>lhs;cbv
 exact ?v
theorem TU:a7 a1.prog 181 TT:=bg {heap:=[3]}
def TV:aX:=by
 have h:bf 190 {}=some ?v:=by conv=>lhs;cbv
 exact ?v
theorem TW:a7 a1.prog 190 TV:=bg {}
def TX:aX:=by
 have h:bf 202 {}=some ?v:=by conv=>lhs;cbv
 exact ?v
theorem akK:a7 a1.prog 202 TX:=bg {}
def TY:aX:=by
 have h:bf 206 {live:=[([0,1,2,3,8,9],[])]}=some ?v:=by
  apply azK;apply mC Tryz.func206;repeat (first|apply mD|apply mE|apply mF|apply mG|(conv=>lhs;cbv)|rfl)
 exact ?v
theorem akL:a7 a1.prog 206 TY:=bg {live:=[([0,1,2,3,8,9],[])]}
def T0:aX:=by
 have h:bf 209 {}=some ?v:=by conv=>lhs;cbv
 exact ?v
theorem T1:a7 a1.prog 209 T0:=bg {}
def T2:aX:=by
 have h:bf 214 {take:=[35],live:=[([1,2,6,19,20,21],[2])]}=some ?v:=by conv=>lhs;cbv
 exact ?v
theorem T3:a7 a1.prog 214 T2:=bg {take:=[35],live:=[([1,2,6,19,20,21],[2])]}
def T4:aX:=by
 have h:bf 224 {}=some ?v:=by conv=>lhs;cbv
 exact ?v
theorem Ck:a7 a1.prog 224 T4:=bg {}
def T5:aX:=by
 have h:bf 226 {take:=[15]}=some ?v:=by conv=>lhs;cbv
 exact ?v
theorem T6:a7 a1.prog 226 T5:=bg {take:=[15]}
def T7:aX:=by
 have h:bf 237 {live:=[([0,1,2,6],[]),([0,1,2,6,7],[])]}=some ?v:=by
  apply azK;apply mC Tryz.func237;repeat (first|apply mD|apply mE|apply mF|apply mG|(conv=>lhs;cbv)|rfl)
 exact ?v
theorem akM:a7 a1.prog 237 T7:=bg {live:=[([0,1,2,6],[]),([0,1,2,6,7],[])]}
def T8:aX:=by
 have h:bf 247 {}=some ?v:=by conv=>lhs;cbv
 exact ?v
theorem akN:a7 a1.prog 247 T8:=bg {}
def T9:aX:=by
 have h:bf 248 {}=some ?v:=by conv=>lhs;cbv
 exact ?v
theorem T':a7 a1.prog 248 T9:=bg {}
def Ua:aX:=by
 have h:bf 254 {take:=[69],live:=[([1,2,3,10,52,53,54],[3])]}=some ?v:=by conv=>lhs;cbv
 exact ?v
theorem Ub:a7 a1.prog 254 Ua:=bg {take:=[69],live:=[([1,2,3,10,52,53,54],[3])]}
def Uc:aX:=by
 have h:bf 259 {}=some ?v:=by conv=>lhs;cbv
 exact ?v
theorem Ud:a7 a1.prog 259 Uc:=bg {}
def Ue:aX:=by
 have h:bf 269 {}=some ?v:=by conv=>lhs;cbv
 exact ?v
theorem Uf:a7 a1.prog 269 Ue:=bg {}
def Ug:aX:=by
 have h:bf 270 {}=some ?v:=by conv=>lhs;cbv
 exact ?v
theorem KG:a7 a1.prog 270 Ug:=bg {}
def Uh:aX:=by
 have h:bf 277 {live:=[([3,6,7,8],[])]}=some ?v:=by conv=>lhs;cbv
 exact ?v
theorem akO:a7 a1.prog 277 Uh:=bg {live:=[([3,6,7,8],[])]}
def Ui:aX:=by
 have h:bf 280 {heap:=[4]}=some ?v:=by
  apply azK;apply mC Tryz.func280;repeat (first|apply mD|apply mE|apply mF|apply mG|(conv=>lhs;cbv)|rfl)
 exact ?v
theorem Uj:a7 a1.prog 280 Ui:=bg {heap:=[4]}
def Uk:aX:=by
 have h:bf 281 {live:=[([0,6,9,10,11],[])]}=some ?v:=by conv=>lhs;cbv
 exact ?v
theorem Ul:a7 a1.prog 281 Uk:=bg {live:=[([0,6,9,10,11],[])]}
def Um:aX:=by
 have h:bf 283 {live:=[([0,1,7,8],[])]}=some ?v:=by conv=>lhs;cbv
 exact ?v
theorem Un:a7 a1.prog 283 Um:=bg {live:=[([0,1,7,8],[])]}
def Uo:aX:=by
 have h:bf 289 {}=some ?v:=by conv=>lhs;cbv
 exact ?v
theorem Up:a7 a1.prog 289 Uo:=bg {}
def Uq:aX:=by
 have h:bf 307 {}=some ?v:=by conv=>lhs;cbv
 exact ?v
theorem Ur:a7 a1.prog 307 Uq:=bg {}
end Go.Proofs.YtmgpekpnidjfoaaGreatDoor
