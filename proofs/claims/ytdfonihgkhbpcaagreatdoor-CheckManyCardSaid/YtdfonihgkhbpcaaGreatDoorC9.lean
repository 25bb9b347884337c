/- Part of many_said. -/
import Derived.Test.YtdfonihgkhbpcaaGreatDoorB1
set_option maxRecDepth 100000
set_option maxHeartbeats 8000000
namespace Go.Proofs.YtdfonihgkhbpcaaGreatDoor
open Go Go.aG
theorem aNP:rK n8 tab gl 1000 60 5 (aGx false 23) []=some (aGy false 23,[]):=az5
theorem aNQ:rK n8 tab gl 1000 60 5 (aGx true 29) []=some (aGy true 29,[]):=az5
theorem aNR:rK n8 tab gl 1000 60 17 [.ptr 0 0] (R2 true 26 false)=some (aGo,R2 true 26 true):=az5
theorem aNS:rK n8 tab gl 1000 60 18 [.ptr 0 0] (R2 false 32 true)=some (aGo,aGA false 32):=az5
theorem aNT:rK n8 tab gl 1000 60 18 [.ptr 0 0] (R2 false 30 true)=some (aGo,aGA false 30):=az5
theorem aNU:rK n8 tab gl 1000 60 5 (aGx true 16) []=some (aGy true 16,[]):=az5
theorem aNV:rK (aGD true 14) tab gl 1000 60 15 (aGB true 14) []=some (aGC true 14,[]):=az5
theorem aNW:rK (X true 32) tab gl 1000 60 3 (aGu true 32) []=some (.d (.bool true),[]):=az5
theorem aNX:rK n8 tab gl 1000 60 3 (aGu false 39) []=some (.d (.bool true),[]):=az5
theorem aNY:rK (aGD false 15) tab gl 1000 60 15 (aGB false 15) []=some (aGC false 15,[]):=az5
theorem aNZ:rK (X true 25) tab gl 1000 60 3 (aGu true 25) []=some (.d (.bool true),[]):=az5
theorem aN0:rK (X false 26) tab gl 1000 60 3 (aGu false 26) []=some (.d (.bool true),[]):=az5
theorem aN1:rK (aGD false 8) tab gl 1000 60 15 (aGB false 8) []=some (aGC false 8,[]):=az5
theorem aN2:rK (X true 18) tab gl 1000 60 3 (aGu true 18) []=some (.d (.bool true),[]):=az5
theorem aN3:rK n8 tab gl 1000 60 19 [.ptr 0 0] (aGq false 26 [])=some (aGo,aGq false 26 (cond false aGz [])):=az5
theorem aN4:rK n8 tab gl 1000 60 19 [.ptr 0 0] (aGq false 23 [])=some (aGo,aGq false 23 (cond false aGz [])):=az5
theorem aN5:rK (X false 11) tab gl 1000 60 3 (aGu false 11) []=some (.d (.bool true),[]):=az5
theorem aN6:rK (aGD true 2) tab gl 1000 60 15 (aGB true 2) []=some (aGC true 2,[]):=az5
theorem aN7:rK n8 tab gl 1000 60 15 (EY (one false (aGp 16))) []=some (aGv (aGw false (aGp 16)),[]):=az5
theorem aN8:rK n8 tab gl 1000 60 15 (EY (one true (aGp 0))) []=some (aGv (aGw true (aGp 0)),[]):=az5
theorem aN9:rK n8 tab gl 1000 60 15 (EY (one true (aGp 16))) []=some (aGv (aGw true (aGp 16)),[]):=az5
theorem aN':rK n8 tab gl 1000 60 19 [.ptr 0 0] (aGq false 13 [])=some (aGo,aGq false 13 (cond false aGz [])):=az5
theorem aOa:rK n8 tab gl 1000 60 18 [.ptr 0 0] (R2 true 31 true)=some (aGo,aGA true 31):=az5
theorem aOb:rK n8 tab gl 1000 60 18 [.ptr 0 0] (R2 true 25 true)=some (aGo,aGA true 25):=az5
theorem aOc:rK n8 tab gl 1000 60 18 [.ptr 0 0] (R2 true 21 true)=some (aGo,aGA true 21):=az5
theorem aOd:rK n8 tab gl 1000 60 19 [.ptr 0 0] (aGq true 23 [])=some (aGo,aGq true 23 (cond true aGz [])):=az5
theorem aOe:rK n8 tab gl 1000 60 18 [.ptr 0 0] (R2 false 3 true)=some (aGo,aGA false 3):=az5
theorem aOf:rK n8 tab gl 1000 60 19 [.ptr 0 0] (aGq true 5 [])=some (aGo,aGq true 5 (cond true aGz [])):=az5
theorem aOg:rK n8 tab gl 1000 60 19 [.ptr 0 0] (aGq true 13 [])=some (aGo,aGq true 13 (cond true aGz [])):=az5
end Go.Proofs.YtdfonihgkhbpcaaGreatDoor
