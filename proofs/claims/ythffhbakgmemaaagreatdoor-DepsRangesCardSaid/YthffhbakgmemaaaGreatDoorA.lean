/- Part of ranges_said. -/
import Derived.Test.YthffhbakgmemaaaGreatDoorD
set_option maxRecDepth 100000
set_option maxHeartbeats 8000000
namespace Go.Proofs.YthffhbakgmemaaaGreatDoor
open Go Go.aH
abbrev ii(n:Int):D:=.int .i64 n
abbrev aQ:D:=.int .i64 0
abbrev cb:D:=.str []
abbrev ai(l:List D):D:=.agg l
abbrev bg(l:List UInt8):D:=.str l
def aax:List ah:=[(.d (.str [115,111,117,114,99,101,32,120,32,40,97,32,105,110,116,41,32,100,97,105,108,121,32,48,46,46,51,59,32,97,115,115,101,116,32,121,32,100,97,105,108,121,32,49,46,46,51,32,102,114,111,109,32,120,32,108,97,115,116,32,50,32,97,115,32,120,32,100,111,32,120,59]))]
def aay:aU:=[]
def aaz:ah:=(.tuple [(.d (.list 4 [ai [ii 1,bg [115,111,117,114,99,101],aQ,aQ],ai [ii 1,bg [120],aQ,ii 7],ai [ii 4,bg [40],aQ,ii 9],ai [ii 1,bg [97],aQ,ii 10],ai [ii 1,bg [105,110,116],aQ,ii 12],ai [ii 4,bg [41],aQ,ii 15],ai [ii 1,bg [100,97,105,108,121],aQ,ii 17],ai [ii 2,cb,aQ,ii 23],ai [ii 4,bg [46,46],aQ,ii 24],ai [ii 2,cb,ii 3,ii 26],ai [ii 4,bg [59],aQ,ii 27],ai [ii 1,bg [97,115,115,101,116],aQ,ii 29],ai [ii 1,bg [121],aQ,ii 35],ai [ii 1,bg [100,97,105,108,121],aQ,ii 37],ai [ii 2,cb,ii 1,ii 43],ai [ii 4,bg [46,46],aQ,ii 44],ai [ii 2,cb,ii 3,ii 46],ai [ii 1,bg [102,114,111,109],aQ,ii 48],ai [ii 1,bg [120],aQ,ii 53],ai [ii 1,bg [108,97,115,116],aQ,ii 55],ai [ii 2,cb,ii 2,ii 60],ai [ii 1,bg [97,115],aQ,ii 62],ai [ii 1,bg [120],aQ,ii 65],ai [ii 1,bg [100,111],aQ,ii 67],ai [ii 1,bg [120],aQ,ii 70],ai [ii 4,bg [59],aQ,ii 71]])),(.d (ii 72)),(.d (aQ))])
def aaA:aU:=[]
theorem amL:oe ext tab gl 1000 60 88 aax aay=some (aaz,aaA):=axV
def LI:Nat->List ah->aU->Out:=pS 88 aax aay aaz aaA ext
def aaB:List ah:=[(.d (.str [115,111,117,114,99,101,32,120,32,40,97,32,105,110,116,41,32,100,97,105,108,121,32,48,46,46,51,59,10,97,115,115,101,116,32,121,32,100,97,105,108,121,32,49,46,46,51,32,102,114,111,109,32,120,32,108,97,115,116,32,50,32,97,115,32,120,32,100,111,32,120,59,10]))]
def aaC:aU:=[]
def Gg:ah:=(.tuple [(.d (.list 4 [ai [ii 1,bg [115,111,117,114,99,101],aQ,aQ],ai [ii 1,bg [120],aQ,ii 7],ai [ii 4,bg [40],aQ,ii 9],ai [ii 1,bg [97],aQ,ii 10],ai [ii 1,bg [105,110,116],aQ,ii 12],ai [ii 4,bg [41],aQ,ii 15],ai [ii 1,bg [100,97,105,108,121],aQ,ii 17],ai [ii 2,cb,aQ,ii 23],ai [ii 4,bg [46,46],aQ,ii 24],ai [ii 2,cb,ii 3,ii 26],ai [ii 4,bg [59],aQ,ii 27],ai [ii 1,bg [97,115,115,101,116],aQ,ii 29],ai [ii 1,bg [121],aQ,ii 35],ai [ii 1,bg [100,97,105,108,121],aQ,ii 37],ai [ii 2,cb,ii 1,ii 43],ai [ii 4,bg [46,46],aQ,ii 44],ai [ii 2,cb,ii 3,ii 46],ai [ii 1,bg [102,114,111,109],aQ,ii 48],ai [ii 1,bg [120],aQ,ii 53],ai [ii 1,bg [108,97,115,116],aQ,ii 55],ai [ii 2,cb,ii 2,ii 60],ai [ii 1,bg [97,115],aQ,ii 62],ai [ii 1,bg [120],aQ,ii 65],ai [ii 1,bg [100,111],aQ,ii 67],ai [ii 1,bg [120],aQ,ii 70],ai [ii 4,bg [59],aQ,ii 71]])),(.d (ii 73)),(.d (aQ))])
def aaD:aU:=[]
theorem amM:oe LI tab gl 1000 60 88 aaB aaC=some (Gg,aaD):=axV
def LJ:Nat->List ah->aU->Out:=pS 88 aaB aaC Gg aaD LI
def aaE:List ah:=[(.d (.list 25 [ai [ii 1,bg [120],(.list 2 [ai [bg [97],ii 1]]),ii 2,aQ,ii 3,(.list 4 []),aQ,cb,(.list 16 []),aQ,cb,aQ,aQ,cb,cb,(.list 7 []),(.list 1 []),(.list 7 []),(.list 2 []),(.list 3 []),(.list 2 []),aQ,cb,(.list 1 [])],ai [ii 2,bg [121],(.list 2 []),ii 2,ii 1,ii 3,(.list 4 [ai [bg [120],ii 2,ii 2,bg [120]]]),ii 1,bg [120],(.list 16 []),aQ,cb,aQ,aQ,cb,cb,(.list 7 []),(.list 1 []),(.list 7 []),(.list 2 []),(.list 3 []),(.list 2 []),aQ,cb,(.list 1 [])]]))]
def aaF:aU:=[]
def aaG:ah:=(.tuple [(.d (.str [115,111,117,114,99,101,32,120,32,40,97,32,105,110,116,41,32,100,97,105,108,121,32,48,46,46,51,59,10,97,115,115,101,116,32,121,32,100,97,105,108,121,32,49,46,46,51,32,102,114,111,109,32,120,32,108,97,115,116,32,50,32,97,115,32,120,32,100,111,32,120,59,10])),(.d (aQ))])
def aaH:aU:=[]
theorem amN:oe LJ tab gl 1000 60 65 aaE aaF=some (aaG,aaH):=axV
def LK:Nat->List ah->aU->Out:=pS 65 aaE aaF aaG aaH LJ
def aaI:List ah:=[(.d (.str [115,111,117,114,99,101,32,120,32,40,97,32,105,110,116,41,32,100,97,105,108,121,32,48,46,46,51,59,10]))]
def aaJ:aU:=[]
def aaK:ah:=(.tuple [(.d (.list 25 [ai [ii 1,bg [120],(.list 2 [ai [bg [97],ii 1]]),ii 2,aQ,ii 3,(.list 4 []),aQ,cb,(.list 16 []),aQ,cb,aQ,aQ,cb,cb,(.list 7 []),(.list 1 []),(.list 7 []),(.list 2 []),(.list 3 []),(.list 2 []),aQ,cb,(.list 1 [])]])),(.d (ii 29)),(.d (aQ))])
def aaL:aU:=[]
theorem amO:oe LK tab gl 1000 60 45 aaI aaJ=some (aaK,aaL):=axV
def LL:Nat->List ah->aU->Out:=pS 45 aaI aaJ aaK aaL LK
def LM:List ah:=[(.d (.str [97,115,115,101,116,32,121,32,100,97,105,108,121,32,49,46,46,51,32,102,114,111,109,32,120,32,108,97,115,116,32,50,32,97,115,32,120,32,100,111,32,120,59,10]))]
def aaM:aU:=[]
def aaN:ah:=(.tuple [(.d (.list 25 [ai [ii 2,bg [121],(.list 2 []),ii 2,ii 1,ii 3,(.list 4 [ai [bg [120],ii 2,ii 2,bg [120]]]),ii 1,bg [120],(.list 16 []),aQ,cb,aQ,aQ,cb,cb,(.list 7 []),(.list 1 []),(.list 7 []),(.list 2 []),(.list 3 []),(.list 2 []),aQ,cb,(.list 1 [])]])),(.d (ii 44)),(.d (aQ))])
def aaO:aU:=[]
theorem amP:oe LL tab gl 1000 60 45 LM aaM=some (aaN,aaO):=axV
def LN:Nat->List ah->aU->Out:=pS 45 LM aaM aaN aaO LL
def aaP:List ah:=aaE
def aaQ:aU:=[]
def aaR:ah:=(.tuple [(.ptr 0 0),(.d (ii 2)),(.d (aQ))])
def aaS:aU:=[(.box [(.d (.list 25 [ai [ii 1,bg [120],(.list 2 [ai [bg [97],ii 1]]),ii 2,aQ,ii 3,(.list 4 []),aQ,cb,(.list 16 []),aQ,cb,aQ,aQ,cb,cb,(.list 7 []),(.list 1 []),(.list 7 []),(.list 2 []),(.list 3 []),(.list 2 []),aQ,cb,(.list 1 [])],ai [ii 2,bg [121],(.list 2 []),ii 2,ii 1,ii 3,(.list 4 [ai [bg [120],ii 2,ii 2,bg [120]]]),ii 1,bg [120],(.list 16 []),aQ,cb,aQ,aQ,cb,cb,(.list 7 []),(.list 1 []),(.list 7 []),(.list 2 []),(.list 3 []),(.list 2 []),aQ,cb,(.list 1 [])]])),(.d (.str [115,111,117,114,99,101,32,120,32,40,97,32,105,110,116,41,32,100,97,105,108,121,32,48,46,46,51,59,10,97,115,115,101,116,32,121,32,100,97,105,108,121,32,49,46,46,51,32,102,114,111,109,32,120,32,108,97,115,116,32,50,32,97,115,32,120,32,100,111,32,120,59,10])),(.aN 1 0 2 2 24),(.own 1 [aQ,ii 1]),(.own 12 []),(.ptr 6 0),(.map 8)]),(.box [(.d (.str [120])),(.d (.bool true)),(.d (.list 2 [ai [bg [97],ii 1]])),(.d (ii 2)),(.d (aQ)),(.d (ii 3)),(.d (.list 4 [])),(.d (aQ)),(.d (.str [])),(.d (.list 16 [])),(.d (aQ)),(.d (.str [])),(.d (aQ)),(.d (aQ)),(.d (.str [])),(.d (.str [])),(.d (.list 7 [])),(.d (.list 1 [])),(.d (.list 7 [])),(.d (.list 2 [])),(.d (.list 3 [])),(.d (.list 2 [])),(.d (aQ)),(.d (.str [115,111,117,114,99,101,32,120,32,40,97,32,105,110,116,41,32,100,97,105,108,121,32,48,46,46,51,59,10])),(.d (.str [121])),(.d (.bool false)),(.d (.list 2 [ai [bg [97],ii 1]])),(.d (ii 2)),(.d (ii 1)),(.d (ii 3)),(.d (.list 4 [ai [bg [120],ii 2,ii 2,bg [120]]])),(.d (ii 1)),(.d (.str [120])),(.d (.list 16 [])),(.d (aQ)),(.d (.str [])),(.d (aQ)),(.d (aQ)),(.d (.str [])),(.d (.str [])),(.d (.list 7 [])),(.d (.list 1 [])),(.d (.list 7 [])),(.d (.list 2 [])),(.d (.list 3 [])),(.d (.list 2 [])),(.d (aQ)),(.d (.str [97,115,115,101,116,32,121,32,100,97,105,108,121,32,49,46,46,51,32,102,114,111,109,32,120,32,108,97,115,116,32,50,32,97,115,32,120,32,100,111,32,120,59,10]))]),(.box [(.func 67 [(.ptr 0 0)] []),(.func 68 [(.ptr 0 0)] []),(.func 69 [(.ptr 0 0)] [])]),(.box [(.d (.list 1 [])),(.d (.list 1 [aQ]))]),(.box [(.own 1 [ii 1]),(.own 1 [])]),(.box [(.d (aQ)),(.d (ii 1))]),(.box [(.aN 3 0 2 2 1),(.aN 4 0 2 2 1),(.aN 5 0 2 2 1)]),(.box [(.ptr 6 0)]),(.map [((.str [120]),(.d (aQ))),((.str [121]),(.d (ii 1)))])]
theorem amQ:oe LN tab gl 1000 60 46 aaP aaQ=some (aaR,aaS):=axV
def LO:Nat->List ah->aU->Out:=pS 46 aaP aaQ aaR aaS LN
def aaT:List ah:=[]
def aaU:aU:=[]
def aaV:ah:=(.d (.bool true))
def aaW:aU:=[]
theorem amR:oe LO tab gl 1000 60 6 aaT aaU=some (aaV,aaW):=axV
def LP:Nat->List ah->aU->Out:=pS 6 aaT aaU aaV aaW LO
theorem aa6:gX a1 gl LI:=sw LH (pT LH p4 60 _ _ _ _ _ amL)
theorem aa7:gX a1 gl LJ:=sw aa6 (pT aa6 p4 60 _ _ _ _ _ amM)
theorem aa8:gX a1 gl LK:=sw aa7 (pT aa7 p4 60 _ _ _ _ _ amN)
theorem aa9:gX a1 gl LL:=sw aa8 (pT aa8 p4 60 _ _ _ _ _ amO)
theorem aa':gX a1 gl LN:=sw aa9 (pT aa9 p4 60 _ _ _ _ _ amP)
theorem abb:gX a1 gl LO:=sw aa' (pT aa' p4 60 _ _ _ _ _ amQ)
theorem abd:gX a1 gl LP:=sw abb (pT abb p4 60 _ _ _ _ _ amR)
theorem amV:bG a1 gl 6 aaT aaU aaV aaW:=pT abb p4 60 _ _ _ _ _ amR
end Go.Proofs.YthffhbakgmemaaaGreatDoor
