/- Part of many_said. -/
import Derived.Test.YtdfonihgkhbpcaaGreatDoorB1
set_option maxRecDepth 100000
set_option maxHeartbeats 8000000
namespace Go.Proofs.YtdfonihgkhbpcaaGreatDoor
open Go Go.aG
theorem aMU:rK n8 tab gl 1000 60 5 (aGx false 25) []=some (aGy false 25,[]):=az5
theorem aMV:rK n8 tab gl 1000 60 5 (aGx false 18) []=some (aGy false 18,[]):=az5
theorem aMW:rK n8 tab gl 1000 60 5 (aGx false 15) []=some (aGy false 15,[]):=az5
theorem aMX:rK (aGD false 31) tab gl 1000 60 15 (aGB false 31) []=some (aGC false 31,[]):=az5
theorem aMY:rK (aGD false 27) tab gl 1000 60 15 (aGB false 27) []=some (aGC false 27,[]):=az5
theorem aMZ:rK n8 tab gl 1000 60 5 (aGx true 15) []=some (aGy true 15,[]):=az5
theorem aM0:rK n8 tab gl 1000 60 5 (aGx true 14) []=some (aGy true 14,[]):=az5
theorem aM1:rK n8 tab gl 1000 60 17 [.ptr 0 0] (R2 true 16 false)=some (aGo,R2 true 16 true):=az5
theorem aM2:rK n8 tab gl 1000 60 3 (aGu true 38) []=some (.d (.bool true),[]):=az5
theorem aM3:rK (aGD false 14) tab gl 1000 60 15 (aGB false 14) []=some (aGC false 14,[]):=az5
theorem aM4:rK n8 tab gl 1000 60 17 [.ptr 0 0] (R2 true 14 false)=some (aGo,R2 true 14 true):=az5
theorem aM5:rK n8 tab gl 1000 60 18 [.ptr 0 0] (R2 false 18 true)=some (aGo,aGA false 18):=az5
theorem aM6:rK n8 tab gl 1000 60 5 (aGx true 6) []=some (aGy true 6,[]):=az5
theorem aM7:rK n8 tab gl 1000 60 19 [.ptr 0 0] (aGq false 29 [])=some (aGo,aGq false 29 (cond false aGz [])):=az5
theorem aM8:rK (aGD false 6) tab gl 1000 60 15 (aGB false 6) []=some (aGC false 6,[]):=az5
theorem aM9:rK (X false 14) tab gl 1000 60 3 (aGu false 14) []=some (.d (.bool true),[]):=az5
theorem aM':rK n8 tab gl 1000 60 18 [.ptr 0 0] (R2 false 11 true)=some (aGo,aGA false 11):=az5
theorem aNa:rK (X false 9) tab gl 1000 60 3 (aGu false 9) []=some (.d (.bool true),[]):=az5
theorem aNb:rK n8 tab gl 1000 60 15 (EY (one false (aGp 5))) []=some (aGv (aGw false (aGp 5)),[]):=az5
theorem aNc:rK n8 tab gl 1000 60 15 (EY (one false (aGp 21))) []=some (aGv (aGw false (aGp 21)),[]):=az5
theorem aNd:rK n8 tab gl 1000 60 15 (EY (one true (aGp 5))) []=some (aGv (aGw true (aGp 5)),[]):=az5
theorem aNe:rK n8 tab gl 1000 60 15 (EY (one true (aGp 21))) []=some (aGv (aGw true (aGp 21)),[]):=az5
theorem aNf:rK n8 tab gl 1000 60 19 [.ptr 0 0] (aGq false 12 [])=some (aGo,aGq false 12 (cond false aGz [])):=az5
theorem aNg:rK n8 tab gl 1000 60 19 [.ptr 0 0] (aGq false 8 [])=some (aGo,aGq false 8 (cond false aGz [])):=az5
theorem aNh:rK n8 tab gl 1000 60 18 [.ptr 0 0] (R2 true 22 true)=some (aGo,aGA true 22):=az5
theorem aNi:rK n8 tab gl 1000 60 19 [.ptr 0 0] (aGq true 21 [])=some (aGo,aGq true 21 (cond true aGz [])):=az5
theorem aNj:rK n8 tab gl 1000 60 18 [.ptr 0 0] (R2 false 2 true)=some (aGo,aGA false 2):=az5
theorem aNk:rK n8 tab gl 1000 60 18 [.ptr 0 0] (R2 true 3 true)=some (aGo,aGA true 3):=az5
theorem aNl:rK n8 tab gl 1000 60 18 [.ptr 0 0] (R2 true 11 true)=some (aGo,aGA true 11):=az5
end Go.Proofs.YtdfonihgkhbpcaaGreatDoor
