/- Part of many_said. -/
import Derived.Test.YtdfonihgkhbpcaaGreatDoorB1
set_option maxRecDepth 100000
set_option maxHeartbeats 8000000
namespace Go.Proofs.YtdfonihgkhbpcaaGreatDoor
open Go Go.aG
theorem aPF:rK n8 tab gl 1000 60 5 (aGx false 21) []=some (aGy false 21,[]):=az5
theorem aPG:rK n8 tab gl 1000 60 5 (aGx true 30) []=some (aGy true 30,[]):=az5
theorem aPH:rK n8 tab gl 1000 60 5 (aGx true 26) []=some (aGy true 26,[]):=az5
theorem aPI:rK (aGD false 32) tab gl 1000 60 15 (aGB false 32) []=some (aGC false 32,[]):=az5
theorem aPJ:rK (aGD true 20) tab gl 1000 60 15 (aGB true 20) []=some (aGC true 20,[]):=az5
theorem aPK:rK n8 tab gl 1000 60 18 [.ptr 0 0] (R2 false 28 true)=some (aGo,aGA false 28):=az5
theorem aPL:rK n8 tab gl 1000 60 17 [.ptr 0 0] (R2 false 26 false)=some (aGo,R2 false 26 true):=az5
theorem aPM:rK n8 tab gl 1000 60 5 (aGx true 11) []=some (aGy true 11,[]):=az5
theorem aPN:rK n8 tab gl 1000 60 3 (aGu true 34) []=some (.d (.bool true),[]):=az5
theorem aPO:rK n8 tab gl 1000 60 5 (aGx false 6) []=some (aGy false 6,[]):=az5
theorem aPP:rK (aGD true 9) tab gl 1000 60 15 (aGB true 9) []=some (aGC true 9,[]):=az5
theorem aPQ:rK (aGD true 7) tab gl 1000 60 15 (aGB true 7) []=some (aGC true 7,[]):=az5
theorem aPR:rK n8 tab gl 1000 60 17 [.ptr 0 0] (R2 true 11 false)=some (aGo,R2 true 11 true):=az5
theorem aPS:rK (X false 19) tab gl 1000 60 3 (aGu false 19) []=some (.d (.bool true),[]):=az5
theorem aPT:rK n8 tab gl 1000 60 19 [.ptr 0 0] (aGq false 27 [])=some (aGo,aGq false 27 (cond false aGz [])):=az5
theorem aPU:rK n8 tab gl 1000 60 18 [.ptr 0 0] (R2 false 12 true)=some (aGo,aGA false 12):=az5
theorem aPV:rK n8 tab gl 1000 60 19 [.ptr 0 0] (aGq false 20 [])=some (aGo,aGq false 20 (cond false aGz [])):=az5
theorem aPW:rK n8 tab gl 1000 60 19 [.ptr 0 0] (aGq false 14 [])=some (aGo,aGq false 14 (cond false aGz [])):=az5
theorem aPX:rK n8 tab gl 1000 60 15 (EY (one false (aGp 12))) []=some (aGv (aGw false (aGp 12)),[]):=az5
theorem aPY:rK n8 tab gl 1000 60 15 (EY (one false (aGp 28))) []=some (aGv (aGw false (aGp 28)),[]):=az5
theorem aPZ:rK n8 tab gl 1000 60 15 (EY (one true (aGp 12))) []=some (aGv (aGw true (aGp 12)),[]):=az5
theorem aP0:rK n8 tab gl 1000 60 15 (EY (one true (aGp 28))) []=some (aGv (aGw true (aGp 28)),[]):=az5
theorem aP1:rK n8 tab gl 1000 60 18 [.ptr 0 0] (R2 false 7 true)=some (aGo,aGA false 7):=az5
theorem aP2:rK n8 tab gl 1000 60 18 [.ptr 0 0] (R2 true 27 true)=some (aGo,aGA true 27):=az5
theorem aP3:rK n8 tab gl 1000 60 19 [.ptr 0 0] (aGq true 27 [])=some (aGo,aGq true 27 (cond true aGz [])):=az5
theorem aP4:rK (X true 3) tab gl 1000 60 3 (aGu true 3) []=some (.d (.bool true),[]):=az5
theorem aP5:rK (X false 1) tab gl 1000 60 3 (aGu false 1) []=some (.d (.bool true),[]):=az5
theorem aP6:rK n8 tab gl 1000 60 19 [.ptr 0 0] (aGq true 2 [])=some (aGo,aGq true 2 (cond true aGz [])):=az5
theorem aP7:rK n8 tab gl 1000 60 18 [.ptr 0 0] (R2 true 10 true)=some (aGo,aGA true 10):=az5
end Go.Proofs.YtdfonihgkhbpcaaGreatDoor
