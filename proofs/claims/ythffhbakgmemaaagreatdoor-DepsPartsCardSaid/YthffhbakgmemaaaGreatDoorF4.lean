/- Part of parts_said. -/
import Derived.Test.YthffhbakgmemaaaGreatDoorP
set_option maxRecDepth 100000
set_option maxHeartbeats 8000000
namespace Go.Proofs.YthffhbakgmemaaaGreatDoor
open Go Go.aG
def ZT:aW:=by
 have h:a7 10 {take:=[14],live:=[([0,5,8,9,10],[])]}=some ?v:=by conv=>lhs;cbv
 exact ?v
theorem ZU:a6 a1 10 ZT:=a8 {take:=[14],live:=[([0,5,8,9,10],[])]}
def ZV:aW:=by
 have h:a7 12 {take:=[14],live:=[([0,3,8,9,10],[])]}=some ?v:=by conv=>lhs;cbv
 exact ?v
theorem ZW:a6 a1 12 ZV:=a8 {take:=[14],live:=[([0,3,8,9,10],[])]}
def ZX:aW:=by
 have h:a7 14 {take:=[19],live:=[([0,1,5,6],[])]}=some ?v:=by conv=>lhs;cbv
 exact ?v
theorem ZY:a6 a1 14 ZX:=a8 {take:=[19],live:=[([0,1,5,6],[])]}
def ZZ:aW:=by
 have h:a7 15 {}=some ?v:=by conv=>lhs;cbv
 exact ?v
theorem Z0:a6 a1 15 ZZ:=a8 {}
def Z1:aW:=by
 have h:a7 16 {live:=[([0,3,5],[3])]}=some ?v:=by conv=>lhs;cbv
 exact ?v
theorem Z2:a6 a1 16 Z1:=a8 {live:=[([0,3,5],[3])]}
def Z3:aW:=by
 have h:a7 17 {}=some ?v:=by conv=>lhs;cbv
 exact ?v
theorem Z4:a6 a1 17 Z3:=a8 {}
def Z5:aW:=by
 have h:a7 18 {}=some ?v:=by conv=>lhs;cbv
 exact ?v
theorem Mq:a6 a1 18 Z5:=a8 {}
def Z6:aW:=by
 have h:a7 19 {}=some ?v:=by conv=>lhs;cbv
 exact ?v
theorem Hd:a6 a1 19 Z6:=a8 {}
def Z7:aW:=by
 have h:a7 21 {}=some ?v:=by conv=>lhs;cbv
 exact ?v
theorem Z8:a6 a1 21 Z7:=a8 {}
def Z9:aW:=by
 have h:a7 27 {heap:=[3]}=some ?v:=by conv=>lhs;cbv
 exact ?v
theorem Mr:a6 a1 27 Z9:=a8 {heap:=[3]}
def Z':aW:=by
 have h:a7 33 {}=some ?v:=by conv=>lhs;cbv
 exact ?v
theorem aac:a6 a1 33 Z':=a8 {}
def aad:aW:=by
 have h:a7 34 {live:=[([0,1,5,6],[])]}=some ?v:=by conv=>lhs;cbv
 exact ?v
theorem Ms:a6 a1 34 aad:=a8 {live:=[([0,1,5,6],[])]}
def aae:aW:=by
 have h:a7 38 {}=some ?v:=by conv=>lhs;cbv
 exact ?v
theorem anB:a6 a1 38 aae:=a8 {}
def aaf:aW:=by
 have h:a7 41 {}=some ?v:=by conv=>lhs;cbv
 exact ?v
theorem anC:a6 a1 41 aaf:=a8 {}
def aag:aW:=by
 have h:a7 44 {}=some ?v:=by conv=>lhs;cbv
 exact ?v
theorem aah:a6 a1 44 aag:=a8 {}
def aai:aW:=by
 have h:a7 52 {take:=[22,36],live:=[([1,2,4,15,16,17],[1,2]),([1,2,29,30,31],[1,2])]}=some ?v:=by
  apply aCO;apply kg Tryz.func52;repeat (first|apply kh|apply ki|apply kj|apply kk|(conv=>lhs;cbv)|rfl)
 exact ?v
theorem aaj:a6 a1 52 aai:=a8 {take:=[22,36],live:=[([1,2,4,15,16,17],[1,2]),([1,2,29,30,31],[1,2])]}
def aak:aW:=by
 have h:a7 54 {}=some ?v:=by conv=>lhs;cbv
 exact ?v
theorem aal:a6 a1 54 aak:=a8 {}
def aam:aW:=by
 have h:a7 55 {live:=[([0,1,7,8],[])]}=some ?v:=by conv=>lhs;cbv
 exact ?v
theorem aan:a6 a1 55 aam:=a8 {live:=[([0,1,7,8],[])]}
def aao:aW:=by
 have h:a7 59 {}=some ?v:=by conv=>lhs;cbv
 exact ?v
theorem aap:a6 a1 59 aao:=a8 {}
def aaq:aW:=by
 have h:a7 65 {heap:=[4],live:=[([0,4,10,11,12],[])],h':=[4]}=some ?v:=by conv=>lhs;cbv
 exact ?v
theorem aar:a6 a1 65 aaq:=a8 {heap:=[4],live:=[([0,4,10,11,12],[])],h':=[4]}
def aas:aW:=by
 have h:a7 66 {}=some ?v:=by conv=>lhs;cbv
 exact ?v
theorem aat:a6 a1 66 aas:=a8 {}
def aau:aW:=by
 have h:a7 67 {live:=[([0,4,5,12,13,14],[])]}=some ?v:=by conv=>lhs;cbv
 exact ?v
theorem aav:a6 a1 67 aau:=a8 {live:=[([0,4,5,12,13,14],[])]}
def aaw:aW:=by
 have h:a7 68 {take:=[21],live:=[([0,4,15,16,17],[]),([0,49,50,51],[]),([0,4,8,74,75],[])]}=some ?v:=by conv=>lhs;cbv
 exact ?v
theorem aax:a6 a1 68 aaw:=a8 {take:=[21],live:=[([0,4,15,16,17],[]),([0,49,50,51],[]),([0,4,8,74,75],[])]}
def aay:aW:=by
 have h:a7 70 {}=some ?v:=by conv=>lhs;cbv
 exact ?v
theorem anD:a6 a1 70 aay:=a8 {}
def aaz:aW:=by
 have h:a7 73 {take:=[16],live:=[([1,2,9,10,11],[1,2])]}=some ?v:=by conv=>lhs;cbv
 exact ?v
theorem aaA:a6 a1 73 aaz:=a8 {take:=[16],live:=[([1,2,9,10,11],[1,2])]}
def aaB:aW:=by
 have h:a7 74 {}=some ?v:=by conv=>lhs;cbv
 exact ?v
theorem Mt:a6 a1 74 aaB:=a8 {}
def aaC:aW:=by
 have h:a7 89 {live:=[([0,7,8,9],[])]}=some ?v:=by conv=>lhs;cbv
 exact ?v
theorem aaD:a6 a1 89 aaC:=a8 {live:=[([0,7,8,9],[])]}
def aaE:aW:=by
 have h:a7 98 {live:=[([1,2,15,16,17],[])]}=some ?v:=by conv=>lhs;cbv
 exact ?v
theorem aaF:a6 a1 98 aaE:=a8 {live:=[([1,2,15,16,17],[])]}
def aaG:aW:=by
 have h:a7 99 {}=some ?v:=by conv=>lhs;cbv
 exact ?v
theorem aaH:a6 a1 99 aaG:=a8 {}
def aaI:aW:=by
 have h:a7 104 {take:=[33,22],live:=[([1,2,7,8],[])],EJ:=[23]}=some ?v:=by conv=>lhs;cbv
 exact ?v
theorem aaJ:a6 a1 104 aaI:=a8 {take:=[33,22],live:=[([1,2,7,8],[])],EJ:=[23]}
def aaK:aW:=by
 have h:a7 109 {live:=[([0,1,2,3,8],[]),([0,1,2,3,8,9],[])]}=some ?v:=by
  apply aCO;apply kg Tryz.func109;repeat (first|apply kh|apply ki|apply kj|apply kk|(conv=>lhs;cbv)|rfl)
 exact ?v
theorem Mu:a6 a1 109 aaK:=a8 {live:=[([0,1,2,3,8],[]),([0,1,2,3,8,9],[])]}
def aaL:aW:=by
 have h:a7 117 {live:=[([0,1,4,19,20],[4])]}=some ?v:=by conv=>lhs;cbv
 exact ?v
theorem aaM:a6 a1 117 aaL:=a8 {live:=[([0,1,4,19,20],[4])]}
def aaN:aW:=by
 have h:a7 120 {live:=[([0,1],[])]}=some ?v:=by conv=>lhs;cbv
 exact ?v
theorem wD:a6 a1 120 aaN:=a8 {live:=[([0,1],[])]}
def aaO:aW:=by
 have h:a7 121 {take:=[11]}=some ?v:=by conv=>lhs;cbv
 exact ?v
theorem aaP:a6 a1 121 aaO:=a8 {take:=[11]}
def aaQ:aW:=by
 have h:a7 122 {}=some ?v:=by conv=>lhs;cbv
 exact ?v
theorem aaR:a6 a1 122 aaQ:=a8 {}
def aaS:aW:=by
 have h:a7 130 {}=some ?v:=by conv=>lhs;cbv
 exact ?v
theorem aaT:a6 a1 130 aaS:=a8 {}
def aaU:aW:=by
 have h:a7 136 {}=some ?v:=by conv=>lhs;cbv
 exact ?v
theorem aaV:a6 a1 136 aaU:=a8 {}
def aaW:aW:=by
 have h:a7 145 {}=some ?v:=by conv=>lhs;cbv
 exact ?v
theorem aaX:a6 a1 145 aaW:=a8 {}
def aaY:aW:=by
 have h:a7 152 {live:=[([0,3],[]),([0,3,4,5],[])],si:=[2]}=some ?v:=by conv=>lhs;cbv
 exact ?v
theorem Mv:a6 a1 152 aaY:=a8 {live:=[([0,3],[]),([0,3,4,5],[])],si:=[2]}
def aaZ:aW:=by
 have h:a7 156 {own:=true}=some ?v:=by conv=>lhs;cbv
 exact ?v
theorem Mw:a6 a1 156 aaZ:=a8 {own:=true}
def aa0:aW:=by
 have h:a7 157 {live:=[([3,7,8,9],[])]}=some ?v:=by conv=>lhs;cbv
 exact ?v
theorem aa1:a6 a1 157 aa0:=a8 {live:=[([3,7,8,9],[])]}
def aa2:aW:=by
 have h:a7 164 {}=some ?v:=by conv=>lhs;cbv
 exact ?v
theorem anE:a6 a1 164 aa2:=a8 {}
def aa3:aW:=by
 have h:a7 173 {heap:=[1]}=some ?v:=by conv=>lhs;cbv
 exact ?v
theorem Mx:a6 a1 173 aa3:=a8 {heap:=[1]}
def aa4:aW:=by
 have h:a7 178 {live:=[([0,1,5,6],[])]}=some ?v:=by conv=>lhs;cbv
 exact ?v
theorem aa5:a6 a1 178 aa4:=a8 {live:=[([0,1,5,6],[])]}
def aa6:aW:=by
 have h:a7 179 {}=some ?v:=by conv=>lhs;cbv
 exact ?v
theorem aa7:a6 a1 179 aa6:=a8 {}
def aa8:aW:=by
 have h:a7 186 {live:=[([1,2,15,16,17],[])]}=some ?v:=by conv=>lhs;cbv
 exact ?v
theorem aa9:a6 a1 186 aa8:=a8 {live:=[([1,2,15,16,17],[])]}
def aa':aW:=by
 have h:a7 190 {live:=[([0,1,12,13],[])]}=some ?v:=by conv=>lhs;cbv
 exact ?v
theorem abb:a6 a1 190 aa':=a8 {live:=[([0,1,12,13],[])]}
def abd:aW:=by
 have h:a7 191 {live:=[([0,1,12,13],[])]}=some ?v:=by conv=>lhs;cbv
 exact ?v
theorem abe:a6 a1 191 abd:=a8 {live:=[([0,1,12,13],[])]}
def abf:aW:=by
 have h:a7 194 {}=some ?v:=by conv=>lhs;cbv
 exact ?v
theorem abg:a6 a1 194 abf:=a8 {}
def abh:aW:=by
 have h:a7 198 {live:=[([0,1,7,8],[])]}=some ?v:=by conv=>lhs;cbv
 exact ?v
theorem abi:a6 a1 198 abh:=a8 {live:=[([0,1,7,8],[])]}
def abj:aW:=by
 have h:a7 201 {}=some ?v:=by conv=>lhs;cbv
 exact ?v
theorem anF:a6 a1 201 abj:=a8 {}
def abk:aW:=by
 have h:a7 206 {}=some ?v:=by conv=>lhs;cbv
 exact ?v
theorem abl:a6 a1 206 abk:=a8 {}
def abm:aW:=by
 have h:a7 207 {live:=[([0,1,2,3,10],[])]}=some ?v:=by
  apply aCO;apply kg Tryz.func207;repeat (first|apply kh|apply ki|apply kj|apply kk|(conv=>lhs;cbv)|rfl)
 exact ?v
theorem abn:a6 a1 207 abm:=a8 {live:=[([0,1,2,3,10],[])]}
def abo:aW:=by
 have h:a7 210 {}=some ?v:=by conv=>lhs;cbv
 exact ?v
theorem abp:a6 a1 210 abo:=a8 {}
def abq:aW:=by
 have h:a7 213 {}=some ?v:=by conv=>lhs;cbv
 exact ?v
theorem My:a6 a1 213 abq:=a8 {}
def abr:aW:=by
 have h:a7 216 {take:=[3,14]}=some ?v:=by conv=>lhs;cbv
 exact ?v
theorem abt:a6 a1 216 abr:=a8 {take:=[3,14]}
def abu:aW:=by
 have h:a7 224 {take:=[107],live:=[([1,5,101,102,103],[1])]}=some ?v:=by
  apply aCO;apply kg Tryz.func224;repeat (first|apply kh|apply ki|apply kj|apply kk|(conv=>lhs;cbv)|rfl)
 exact ?v
theorem qw:a6 a1 224 abu:=a8 {take:=[107],live:=[([1,5,101,102,103],[1])]}
def abv:aW:=by
 have h:a7 231 {}=some ?v:=by conv=>lhs;cbv
 exact ?v
theorem abw:a6 a1 231 abv:=a8 {}
def abx:aW:=by
 have h:a7 238 {live:=[([0,1,2,3,8,9],[])]}=some ?v:=by
  apply aCO;apply kg Tryz.func238;repeat (first|apply kh|apply ki|apply kj|apply kk|(conv=>lhs;cbv)|rfl)
 exact ?v
theorem anG:a6 a1 238 abx:=a8 {live:=[([0,1,2,3,8,9],[])]}
def aby:aW:=by
 have h:a7 246 {take:=[31],live:=[([0,3,9,10,11],[]),([6,25,26,27],[])]}=some ?v:=by conv=>lhs;cbv
 exact ?v
theorem Dw:a6 a1 246 aby:=a8 {take:=[31],live:=[([0,3,9,10,11],[]),([6,25,26,27],[])]}
def abz:aW:=by
 have h:a7 257 {}=some ?v:=by conv=>lhs;cbv
 exact ?v
theorem Dx:a6 a1 257 abz:=a8 {}
def abA:aW:=by
 have h:a7 260 {take:=[36]}=some ?v:=by conv=>lhs;cbv
 exact ?v
theorem abB:a6 a1 260 abA:=a8 {take:=[36]}
def abC:aW:=by
 have h:a7 266 {}=some ?v:=by conv=>lhs;cbv
 exact ?v
theorem abD:a6 a1 266 abC:=a8 {}
def abE:aW:=by
 have h:a7 280 {}=some ?v:=by conv=>lhs;cbv
 exact ?v
theorem abF:a6 a1 280 abE:=a8 {}
def abG:aW:=by
 have h:a7 285 {live:=[([3,7,8,9],[])]}=some ?v:=by conv=>lhs;cbv
 exact ?v
theorem abH:a6 a1 285 abG:=a8 {live:=[([3,7,8,9],[])]}
def abI:aW:=by
 have h:a7 290 {heap:=[3]}=some ?v:=by conv=>lhs;cbv
 exact ?v
theorem abJ:a6 a1 290 abI:=a8 {heap:=[3]}
def abK:aW:=by
 have h:a7 293 {}=some ?v:=by conv=>lhs;cbv
 exact ?v
theorem Mz:a6 a1 293 abK:=a8 {}
def abL:aW:=by
 have h:a7 313 {live:=[([0,1,7,8],[])]}=some ?v:=by conv=>lhs;cbv
 exact ?v
theorem abM:a6 a1 313 abL:=a8 {live:=[([0,1,7,8],[])]}
def abN:aW:=by
 have h:a7 315 {}=some ?v:=by conv=>lhs;cbv
 exact ?v
theorem abO:a6 a1 315 abN:=a8 {}
def abP:aW:=by
 have h:a7 318 {}=some ?v:=by conv=>lhs;cbv
 exact ?v
theorem abQ:a6 a1 318 abP:=a8 {}
def abR:aW:=by
 have h:a7 344 {}=some ?v:=by conv=>lhs;cbv
 exact ?v
theorem abS:a6 a1 344 abR:=a8 {}
def wE:aW:=by
 have h:a7 347 {heap:=[1,4]}=some ?v:=by conv=>lhs;cbv
 exact ?v
theorem abT:a6 a1 347 wE:=a8 {heap:=[1,4]}
def abU:aW:=by
 have h:a7 350 {}=some ?v:=by conv=>lhs;cbv
 exact ?v
theorem abV:a6 a1 350 abU:=a8 {}
end Go.Proofs.YthffhbakgmemaaaGreatDoor
