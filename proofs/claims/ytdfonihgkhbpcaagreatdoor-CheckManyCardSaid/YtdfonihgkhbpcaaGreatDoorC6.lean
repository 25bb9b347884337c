/- Part of many_said. -/
import Derived.Test.YtdfonihgkhbpcaaGreatDoorB1
set_option maxRecDepth 100000
set_option maxHeartbeats 8000000
namespace Go.Proofs.YtdfonihgkhbpcaaGreatDoor
open Go Go.aG
theorem aMr:rK n8 tab gl 1000 60 5 (aGx false 26) []=some (aGy false 26,[]):=az5
theorem aMs:rK n8 tab gl 1000 60 17 [.ptr 0 0] (R2 true 28 false)=some (aGo,R2 true 28 true):=az5
theorem aMt:rK n8 tab gl 1000 60 17 [.ptr 0 0] (R2 true 25 false)=some (aGo,R2 true 25 true):=az5
theorem aMu:rK (aGD true 21) tab gl 1000 60 15 (aGB true 21) []=some (aGC true 21,[]):=az5
theorem aMv:rK n8 tab gl 1000 60 17 [.ptr 0 0] (R2 true 21 false)=some (aGo,R2 true 21 true):=az5
theorem aMw:rK (aGD true 16) tab gl 1000 60 15 (aGB true 16) []=some (aGC true 16,[]):=az5
theorem aMx:rK n8 tab gl 1000 60 17 [.ptr 0 0] (R2 false 25 false)=some (aGo,R2 false 25 true):=az5
theorem aMy:rK (aGD true 12) tab gl 1000 60 15 (aGB true 12) []=some (aGC true 12,[]):=az5
theorem aMz:rK n8 tab gl 1000 60 3 (aGu false 37) []=some (.d (.bool true),[]):=az5
theorem aMA:rK (X false 32) tab gl 1000 60 3 (aGu false 32) []=some (.d (.bool true),[]):=az5
theorem aMB:rK n8 tab gl 1000 60 18 [.ptr 0 0] (R2 false 20 true)=some (aGo,aGA false 20):=az5
theorem aMC:rK (X false 25) tab gl 1000 60 3 (aGu false 25) []=some (.d (.bool true),[]):=az5
theorem aMD:rK (aGD false 9) tab gl 1000 60 15 (aGB false 9) []=some (aGC false 9,[]):=az5
theorem aME:rK (X true 17) tab gl 1000 60 3 (aGu true 17) []=some (.d (.bool true),[]):=az5
theorem aMF:rK (X true 16) tab gl 1000 60 3 (aGu true 16) []=some (.d (.bool true),[]):=az5
theorem aMG:rK n8 tab gl 1000 60 17 [.ptr 0 0] (R2 false 10 false)=some (aGo,R2 false 10 true):=az5
theorem aMH:rK (aGD false 4) tab gl 1000 60 15 (aGB false 4) []=some (aGC false 4,[]):=az5
theorem aMI:rK n8 tab gl 1000 60 15 (EY (one false (aGp 0))) []=some (aGv (aGw false (aGp 0)),[]):=az5
theorem aMJ:rK n8 tab gl 1000 60 15 (EY (one false (aGp 10))) []=some (aGv (aGw false (aGp 10)),[]):=az5
theorem aMK:rK n8 tab gl 1000 60 15 (EY (one false (aGp 26))) []=some (aGv (aGw false (aGp 26)),[]):=az5
theorem aML:rK n8 tab gl 1000 60 15 (EY (one true (aGp 10))) []=some (aGv (aGw true (aGp 10)),[]):=az5
theorem aMM:rK n8 tab gl 1000 60 15 (EY (one true (aGp 26))) []=some (aGv (aGw true (aGp 26)),[]):=az5
theorem aMN:rK (X false 7) tab gl 1000 60 3 (aGu false 7) []=some (.d (.bool true),[]):=az5
theorem aMO:rK n8 tab gl 1000 60 18 [.ptr 0 0] (R2 true 26 true)=some (aGo,aGA true 26):=az5
theorem aMP:rK n8 tab gl 1000 60 18 [.ptr 0 0] (R2 false 5 true)=some (aGo,aGA false 5):=az5
theorem aMQ:rK n8 tab gl 1000 60 19 [.ptr 0 0] (aGq true 22 [])=some (aGo,aGq true 22 (cond true aGz [])):=az5
theorem aMR:rK n8 tab gl 1000 60 19 [.ptr 0 0] (aGq false 1 [])=some (aGo,aGq false 1 (cond false aGz [])):=az5
theorem aMS:rK n8 tab gl 1000 60 18 [.ptr 0 0] (R2 true 2 true)=some (aGo,aGA true 2):=az5
theorem aMT:rK n8 tab gl 1000 60 19 [.ptr 0 0] (aGq true 9 [])=some (aGo,aGq true 9 (cond true aGz [])):=az5
end Go.Proofs.YtdfonihgkhbpcaaGreatDoor
