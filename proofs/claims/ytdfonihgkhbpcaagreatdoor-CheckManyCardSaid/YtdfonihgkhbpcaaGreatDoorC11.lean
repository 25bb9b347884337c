/- Part of many_said. -/
import Derived.Test.YtdfonihgkhbpcaaGreatDoorB1
set_option maxRecDepth 100000
set_option maxHeartbeats 8000000
namespace Go.Proofs.YtdfonihgkhbpcaaGreatDoor
open Go Go.aG
theorem aOK:rK n8 tab gl 1000 60 5 (aGx false 22) []=some (aGy false 22,[]):=az5
theorem aOL:rK n8 tab gl 1000 60 5 (aGx false 19) []=some (aGy false 19,[]):=az5
theorem aOM:rK n8 tab gl 1000 60 5 (aGx true 25) []=some (aGy true 25,[]):=az5
theorem aON:rK n8 tab gl 1000 60 17 [.ptr 0 0] (R2 true 23 false)=some (aGo,R2 true 23 true):=az5
theorem aOO:rK (aGD false 28) tab gl 1000 60 15 (aGB false 28) []=some (aGC false 28,[]):=az5
theorem aOP:rK n8 tab gl 1000 60 17 [.ptr 0 0] (R2 true 20 false)=some (aGo,R2 true 20 true):=az5
theorem aOQ:rK n8 tab gl 1000 60 5 (aGx true 13) []=some (aGy true 13,[]):=az5
theorem aOR:rK (aGD false 18) tab gl 1000 60 15 (aGB false 18) []=some (aGC false 18,[]):=az5
theorem aOS:rK n8 tab gl 1000 60 3 (aGu true 35) []=some (.d (.bool true),[]):=az5
theorem aOT:rK (X false 31) tab gl 1000 60 3 (aGu false 31) []=some (.d (.bool true),[]):=az5
theorem aOU:rK (aGD false 13) tab gl 1000 60 15 (aGB false 13) []=some (aGC false 13,[]):=az5
theorem aOV:rK (X true 22) tab gl 1000 60 3 (aGu true 22) []=some (.d (.bool true),[]):=az5
theorem aOW:rK n8 tab gl 1000 60 17 [.ptr 0 0] (R2 false 16 false)=some (aGo,R2 false 16 true):=az5
theorem aOX:rK n8 tab gl 1000 60 17 [.ptr 0 0] (R2 false 13 false)=some (aGo,R2 false 13 true):=az5
theorem aOY:rK n8 tab gl 1000 60 17 [.ptr 0 0] (R2 true 9 false)=some (aGo,R2 true 9 true):=az5
theorem aOZ:rK n8 tab gl 1000 60 19 [.ptr 0 0] (aGq false 21 [])=some (aGo,aGq false 21 (cond false aGz [])):=az5
theorem aO0:rK (X false 13) tab gl 1000 60 3 (aGu false 13) []=some (.d (.bool true),[]):=az5
theorem aO1:rK (X true 8) tab gl 1000 60 3 (aGu true 8) []=some (.d (.bool true),[]):=az5
theorem aO2:rK n8 tab gl 1000 60 15 (EY (one false (aGp 14))) []=some (aGv (aGw false (aGp 14)),[]):=az5
theorem aO3:rK n8 tab gl 1000 60 15 (EY (one false (aGp 30))) []=some (aGv (aGw false (aGp 30)),[]):=az5
theorem aO4:rK n8 tab gl 1000 60 15 (EY (one true (aGp 14))) []=some (aGv (aGw true (aGp 14)),[]):=az5
theorem aO5:rK n8 tab gl 1000 60 15 (EY (one true (aGp 30))) []=some (aGv (aGw true (aGp 30)),[]):=az5
theorem aO6:rK (aGD true 1) tab gl 1000 60 15 (aGB true 1) []=some (aGC true 1,[]):=az5
theorem aO7:rK n8 tab gl 1000 60 19 [.ptr 0 0] (aGq false 10 [])=some (aGo,aGq false 10 (cond false aGz [])):=az5
theorem aO8:rK n8 tab gl 1000 60 19 [.ptr 0 0] (aGq false 6 [])=some (aGo,aGq false 6 (cond false aGz [])):=az5
theorem aO9:rK n8 tab gl 1000 60 18 [.ptr 0 0] (R2 false 4 true)=some (aGo,aGA false 4):=az5
theorem aO':rK n8 tab gl 1000 60 19 [.ptr 0 0] (aGq true 18 [])=some (aGo,aGq true 18 (cond true aGz [])):=az5
theorem aPa:rK n8 tab gl 1000 60 18 [.ptr 0 0] (R2 true 4 true)=some (aGo,aGA true 4):=az5
theorem aPb:rK n8 tab gl 1000 60 18 [.ptr 0 0] (R2 true 12 true)=some (aGo,aGA true 12):=az5
end Go.Proofs.YtdfonihgkhbpcaaGreatDoor
