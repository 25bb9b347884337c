/- Part of many_said. -/
import Derived.Test.YtdfonihgkhbpcaaGreatDoorB1
set_option maxRecDepth 100000
set_option maxHeartbeats 8000000
namespace Go.Proofs.YtdfonihgkhbpcaaGreatDoor
open Go Go.aG
theorem aJH:rK n8 tab gl 1000 60 5 (aGx false 32) []=some (aGy false 32,[]):=az5
theorem aJI:rK n8 tab gl 1000 60 17 [.ptr 0 0] (R2 true 27 false)=some (aGo,R2 true 27 true):=az5
theorem aJJ:rK n8 tab gl 1000 60 17 [.ptr 0 0] (R2 true 24 false)=some (aGo,R2 true 24 true):=az5
theorem aJK:rK n8 tab gl 1000 60 17 [.ptr 0 0] (R2 true 22 false)=some (aGo,R2 true 22 true):=az5
theorem aJL:rK n8 tab gl 1000 60 18 [.ptr 0 0] (R2 false 29 true)=some (aGo,aGA false 29):=az5
theorem aJM:rK (aGD false 22) tab gl 1000 60 15 (aGB false 22) []=some (aGC false 22,[]):=az5
theorem aJN:rK n8 tab gl 1000 60 5 (aGx true 12) []=some (aGy true 12,[]):=az5
theorem aJO:rK n8 tab gl 1000 60 3 (aGu false 34) []=some (.d (.bool true),[]):=az5
theorem aJP:rK (aGD true 11) tab gl 1000 60 15 (aGB true 11) []=some (aGC true 11,[]):=az5
theorem aJQ:rK n8 tab gl 1000 60 17 [.ptr 0 0] (R2 false 20 false)=some (aGo,R2 false 20 true):=az5
theorem aJR:rK (aGD true 8) tab gl 1000 60 15 (aGB true 8) []=some (aGC true 8,[]):=az5
theorem aJS:rK n8 tab gl 1000 60 5 (aGx false 4) []=some (aGy false 4,[]):=az5
theorem aJT:rK (X false 22) tab gl 1000 60 3 (aGu false 22) []=some (.d (.bool true),[]):=az5
theorem aJU:rK (aGD true 5) tab gl 1000 60 15 (aGB true 5) []=some (aGC true 5,[]):=az5
theorem aJV:rK n8 tab gl 1000 60 19 [.ptr 0 0] (aGq false 25 [])=some (aGo,aGq false 25 (cond false aGz [])):=az5
theorem aJW:rK n8 tab gl 1000 60 17 [.ptr 0 0] (R2 false 11 false)=some (aGo,R2 false 11 true):=az5
theorem aJX:rK n8 tab gl 1000 60 19 [.ptr 0 0] (aGq false 19 [])=some (aGo,aGq false 19 (cond false aGz [])):=az5
theorem aJY:rK n8 tab gl 1000 60 17 [.ptr 0 0] (R2 false 7 false)=some (aGo,R2 false 7 true):=az5
theorem aJZ:rK n8 tab gl 1000 60 15 (EY (one false (aGp 2))) []=some (aGv (aGw false (aGp 2)),[]):=az5
theorem aJ0:rK n8 tab gl 1000 60 15 (EY (one false (aGp 18))) []=some (aGv (aGw false (aGp 18)),[]):=az5
theorem aJ1:rK n8 tab gl 1000 60 15 (EY (one true (aGp 2))) []=some (aGv (aGw true (aGp 2)),[]):=az5
theorem aJ2:rK n8 tab gl 1000 60 15 (EY (one true (aGp 18))) []=some (aGv (aGw true (aGp 18)),[]):=az5
theorem aJ3:rK n8 tab gl 1000 60 18 [.ptr 0 0] (R2 false 8 true)=some (aGo,aGA false 8):=az5
theorem aJ4:rK n8 tab gl 1000 60 18 [.ptr 0 0] (R2 true 23 true)=some (aGo,aGA true 23):=az5
theorem aJ5:rK n8 tab gl 1000 60 19 [.ptr 0 0] (aGq true 29 [])=some (aGo,aGq true 29 (cond true aGz [])):=az5
theorem aJ6:rK n8 tab gl 1000 60 19 [.ptr 0 0] (aGq true 25 [])=some (aGo,aGq true 25 (cond true aGz [])):=az5
theorem aJ7:rK n8 tab gl 1000 60 17 [.ptr 0 0] (R2 true 1 false)=some (aGo,R2 true 1 true):=az5
theorem aJ8:rK n8 tab gl 1000 60 19 [.ptr 0 0] (aGq true 7 [])=some (aGo,aGq true 7 (cond true aGz [])):=az5
theorem aJ9:rK n8 tab gl 1000 60 19 [.ptr 0 0] (aGq true 16 [])=some (aGo,aGq true 16 (cond true aGz [])):=az5
end Go.Proofs.YtdfonihgkhbpcaaGreatDoor
