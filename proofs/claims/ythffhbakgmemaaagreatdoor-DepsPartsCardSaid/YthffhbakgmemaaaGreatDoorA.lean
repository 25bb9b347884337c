/- Part of parts_said. -/
import Derived.Test.YthffhbakgmemaaaGreatDoorD
set_option maxRecDepth 100000
set_option maxHeartbeats 8000000
namespace Go.Proofs.YthffhbakgmemaaaGreatDoor
open Go Go.aG
abbrev ii(n:Int):D:=.int .i64 n
abbrev cL:D:=.int .i64 0
abbrev gx:D:=.str []
abbrev aw(l:List D):D:=.agg l
abbrev dW(l:List UInt8):D:=.str l
def ab4:List ah:=[(.d (.str [115,111,117,114,99,101,32,120,32,40,97,32,105,110,116,41,32,100,97,105,108,121,32,48,46,46,51,59,32,97,115,115,101,116,32,121,32,100,97,105,108,121,32,49,46,46,51,32,102,114,111,109,32,120,32,108,97,115,116,32,50,32,97,115,32,120,32,100,111,32,120,59]))]
def ab5:aY:=[]
def ab6:ah:=(.tuple [(.d (.list 4 [aw [ii 1,dW [115,111,117,114,99,101],cL,cL],aw [ii 1,dW [120],cL,ii 7],aw [ii 4,dW [40],cL,ii 9],aw [ii 1,dW [97],cL,ii 10],aw [ii 1,dW [105,110,116],cL,ii 12],aw [ii 4,dW [41],cL,ii 15],aw [ii 1,dW [100,97,105,108,121],cL,ii 17],aw [ii 2,gx,cL,ii 23],aw [ii 4,dW [46,46],cL,ii 24],aw [ii 2,gx,ii 3,ii 26],aw [ii 4,dW [59],cL,ii 27],aw [ii 1,dW [97,115,115,101,116],cL,ii 29],aw [ii 1,dW [121],cL,ii 35],aw [ii 1,dW [100,97,105,108,121],cL,ii 37],aw [ii 2,gx,ii 1,ii 43],aw [ii 4,dW [46,46],cL,ii 44],aw [ii 2,gx,ii 3,ii 46],aw [ii 1,dW [102,114,111,109],cL,ii 48],aw [ii 1,dW [120],cL,ii 53],aw [ii 1,dW [108,97,115,116],cL,ii 55],aw [ii 2,gx,ii 2,ii 60],aw [ii 1,dW [97,115],cL,ii 62],aw [ii 1,dW [120],cL,ii 65],aw [ii 1,dW [100,111],cL,ii 67],aw [ii 1,dW [120],cL,ii 70],aw [ii 4,dW [59],cL,ii 71]])),(.d (ii 72)),(.d (cL))])
def ab7:aY:=[]
theorem an7:rK ext tab gl 1000 60 88 ab4 ab5=some (ab6,ab7):=az5
def MG:Nat->List ah->aY->Out:=uS 88 ab4 ab5 ab6 ab7 ext
def ab8:List ah:=[(.d (.str [115,111,117,114,99,101,32,120,32,40,97,32,105,110,116,41,32,100,97,105,108,121,32,48,46,46,51,59,10,97,115,115,101,116,32,121,32,100,97,105,108,121,32,49,46,46,51,32,102,114,111,109,32,120,32,108,97,115,116,32,50,32,97,115,32,120,32,100,111,32,120,59,10]))]
def ab9:aY:=[]
def ab':ah:=(.tuple [(.d (.list 4 [aw [ii 1,dW [115,111,117,114,99,101],cL,cL],aw [ii 1,dW [120],cL,ii 7],aw [ii 4,dW [40],cL,ii 9],aw [ii 1,dW [97],cL,ii 10],aw [ii 1,dW [105,110,116],cL,ii 12],aw [ii 4,dW [41],cL,ii 15],aw [ii 1,dW [100,97,105,108,121],cL,ii 17],aw [ii 2,gx,cL,ii 23],aw [ii 4,dW [46,46],cL,ii 24],aw [ii 2,gx,ii 3,ii 26],aw [ii 4,dW [59],cL,ii 27],aw [ii 1,dW [97,115,115,101,116],cL,ii 29],aw [ii 1,dW [121],cL,ii 35],aw [ii 1,dW [100,97,105,108,121],cL,ii 37],aw [ii 2,gx,ii 1,ii 43],aw [ii 4,dW [46,46],cL,ii 44],aw [ii 2,gx,ii 3,ii 46],aw [ii 1,dW [102,114,111,109],cL,ii 48],aw [ii 1,dW [120],cL,ii 53],aw [ii 1,dW [108,97,115,116],cL,ii 55],aw [ii 2,gx,ii 2,ii 60],aw [ii 1,dW [97,115],cL,ii 62],aw [ii 1,dW [120],cL,ii 65],aw [ii 1,dW [100,111],cL,ii 67],aw [ii 1,dW [120],cL,ii 70],aw [ii 4,dW [59],cL,ii 71]])),(.d (ii 73)),(.d (cL))])
def aca:aY:=[]
theorem an8:rK MG tab gl 1000 60 88 ab8 ab9=some (ab',aca):=az5
def MH:Nat->List ah->aY->Out:=uS 88 ab8 ab9 ab' aca MG
def MI:List ah:=[(.d (.list 25 [aw [ii 1,dW [120],(.list 2 [aw [dW [97],ii 1]]),ii 2,cL,ii 3,(.list 4 []),cL,gx,(.list 16 []),cL,gx,cL,cL,gx,gx,(.list 7 []),(.list 1 []),(.list 7 []),(.list 2 []),(.list 3 []),(.list 2 []),cL,gx,(.list 1 [])],aw [ii 2,dW [121],(.list 2 []),ii 2,ii 1,ii 3,(.list 4 [aw [dW [120],ii 2,ii 2,dW [120]]]),ii 1,dW [120],(.list 16 []),cL,gx,cL,cL,gx,gx,(.list 7 []),(.list 1 []),(.list 7 []),(.list 2 []),(.list 3 []),(.list 2 []),cL,gx,(.list 1 [])]]))]
def acb:aY:=[]
def acd:ah:=(.tuple [(.d (.str [115,111,117,114,99,101,32,120,32,40,97,32,105,110,116,41,32,100,97,105,108,121,32,48,46,46,51,59,10,97,115,115,101,116,32,121,32,100,97,105,108,121,32,49,46,46,51,32,102,114,111,109,32,120,32,108,97,115,116,32,50,32,97,115,32,120,32,100,111,32,120,59,10])),(.d (cL))])
def ace:aY:=[]
theorem an9:rK MH tab gl 1000 60 65 MI acb=some (acd,ace):=az5
def MJ:Nat->List ah->aY->Out:=uS 65 MI acb acd ace MH
def acf:List ah:=[(.d (.str [115,111,117,114,99,101,32,120,32,40,97,32,105,110,116,41,32,100,97,105,108,121,32,48,46,46,51,59,10]))]
def acg:aY:=[]
def ach:ah:=(.tuple [(.d (.list 25 [aw [ii 1,dW [120],(.list 2 [aw [dW [97],ii 1]]),ii 2,cL,ii 3,(.list 4 []),cL,gx,(.list 16 []),cL,gx,cL,cL,gx,gx,(.list 7 []),(.list 1 []),(.list 7 []),(.list 2 []),(.list 3 []),(.list 2 []),cL,gx,(.list 1 [])]])),(.d (ii 29)),(.d (cL))])
def aci:aY:=[]
theorem an':rK MJ tab gl 1000 60 45 acf acg=some (ach,aci):=az5
def MK:Nat->List ah->aY->Out:=uS 45 acf acg ach aci MJ
def acj:List ah:=[(.d (.str [97,115,115,101,116,32,121,32,100,97,105,108,121,32,49,46,46,51,32,102,114,111,109,32,120,32,108,97,115,116,32,50,32,97,115,32,120,32,100,111,32,120,59,10]))]
def ack:aY:=[]
def acm:ah:=(.tuple [(.d (.list 25 [aw [ii 2,dW [121],(.list 2 []),ii 2,ii 1,ii 3,(.list 4 [aw [dW [120],ii 2,ii 2,dW [120]]]),ii 1,dW [120],(.list 16 []),cL,gx,cL,cL,gx,gx,(.list 7 []),(.list 1 []),(.list 7 []),(.list 2 []),(.list 3 []),(.list 2 []),cL,gx,(.list 1 [])]])),(.d (ii 44)),(.d (cL))])
def acn:aY:=[]
theorem aoa:rK MK tab gl 1000 60 45 acj ack=some (acm,acn):=az5
def ML:Nat->List ah->aY->Out:=uS 45 acj ack acm acn MK
def aco:List ah:=MI
def acp:aY:=[]
def acq:ah:=(.tuple [(.ptr 0 0),(.d (ii 2)),(.d (cL))])
def acr:aY:=[(.box [(.d (.list 25 [aw [ii 1,dW [120],(.list 2 [aw [dW [97],ii 1]]),ii 2,cL,ii 3,(.list 4 []),cL,gx,(.list 16 []),cL,gx,cL,cL,gx,gx,(.list 7 []),(.list 1 []),(.list 7 []),(.list 2 []),(.list 3 []),(.list 2 []),cL,gx,(.list 1 [])],aw [ii 2,dW [121],(.list 2 []),ii 2,ii 1,ii 3,(.list 4 [aw [dW [120],ii 2,ii 2,dW [120]]]),ii 1,dW [120],(.list 16 []),cL,gx,cL,cL,gx,gx,(.list 7 []),(.list 1 []),(.list 7 []),(.list 2 []),(.list 3 []),(.list 2 []),cL,gx,(.list 1 [])]])),(.d (.str [115,111,117,114,99,101,32,120,32,40,97,32,105,110,116,41,32,100,97,105,108,121,32,48,46,46,51,59,10,97,115,115,101,116,32,121,32,100,97,105,108,121,32,49,46,46,51,32,102,114,111,109,32,120,32,108,97,115,116,32,50,32,97,115,32,120,32,100,111,32,120,59,10])),(.aP 1 0 2 2 24),(.own 1 [cL,ii 1]),(.own 12 []),(.ptr 6 0),(.map 8)]),(.box [(.d (.str [120])),(.d (.bool true)),(.d (.list 2 [aw [dW [97],ii 1]])),(.d (ii 2)),(.d (cL)),(.d (ii 3)),(.d (.list 4 [])),(.d (cL)),(.d (.str [])),(.d (.list 16 [])),(.d (cL)),(.d (.str [])),(.d (cL)),(.d (cL)),(.d (.str [])),(.d (.str [])),(.d (.list 7 [])),(.d (.list 1 [])),(.d (.list 7 [])),(.d (.list 2 [])),(.d (.list 3 [])),(.d (.list 2 [])),(.d (cL)),(.d (.str [115,111,117,114,99,101,32,120,32,40,97,32,105,110,116,41,32,100,97,105,108,121,32,48,46,46,51,59,10])),(.d (.str [121])),(.d (.bool false)),(.d (.list 2 [aw [dW [97],ii 1]])),(.d (ii 2)),(.d (ii 1)),(.d (ii 3)),(.d (.list 4 [aw [dW [120],ii 2,ii 2,dW [120]]])),(.d (ii 1)),(.d (.str [120])),(.d (.list 16 [])),(.d (cL)),(.d (.str [])),(.d (cL)),(.d (cL)),(.d (.str [])),(.d (.str [])),(.d (.list 7 [])),(.d (.list 1 [])),(.d (.list 7 [])),(.d (.list 2 [])),(.d (.list 3 [])),(.d (.list 2 [])),(.d (cL)),(.d (.str [97,115,115,101,116,32,121,32,100,97,105,108,121,32,49,46,46,51,32,102,114,111,109,32,120,32,108,97,115,116,32,50,32,97,115,32,120,32,100,111,32,120,59,10]))]),(.box [(.func 67 [(.ptr 0 0)] []),(.func 68 [(.ptr 0 0)] []),(.func 69 [(.ptr 0 0)] [])]),(.box [(.d (.list 1 [])),(.d (.list 1 [cL]))]),(.box [(.own 1 [ii 1]),(.own 1 [])]),(.box [(.d (cL)),(.d (ii 1))]),(.box [(.aP 3 0 2 2 1),(.aP 4 0 2 2 1),(.aP 5 0 2 2 1)]),(.box [(.ptr 6 0)]),(.map [((.str [120]),(.d (cL))),((.str [121]),(.d (ii 1)))])]
theorem aob:rK ML tab gl 1000 60 46 aco acp=some (acq,acr):=az5
def MN:Nat->List ah->aY->Out:=uS 46 aco acp acq acr ML
def MO:List ah:=[]
def MP:aY:=[]
def MQ:ah:=(.d (.bool true))
def MR:aY:=[]
theorem acs:rK MN tab gl 1000 60 6 MO MP=some (MQ,MR):=az5
def aoc:Nat->List ah->aY->Out:=uS 6 MO MP MQ MR MN
theorem acu:hP a1 gl MG:=yf MF (uT MF uZ 60 _ _ _ _ _ an7)
theorem acv:hP a1 gl MH:=yf acu (uT acu uZ 60 _ _ _ _ _ an8)
theorem acw:hP a1 gl MJ:=yf acv (uT acv uZ 60 _ _ _ _ _ an9)
theorem acx:hP a1 gl MK:=yf acw (uT acw uZ 60 _ _ _ _ _ an')
theorem acy:hP a1 gl ML:=yf acx (uT acx uZ 60 _ _ _ _ _ aoa)
theorem MS:hP a1 gl MN:=yf acy (uT acy uZ 60 _ _ _ _ _ aob)
theorem ayl:hP a1 gl aoc:=yf MS (uT MS uZ 60 _ _ _ _ _ acs)
theorem aod:bD a1 gl 6 MO MP MQ MR:=uT MS uZ 60 _ _ _ _ _ acs
end Go.Proofs.YthffhbakgmemaaaGreatDoor
