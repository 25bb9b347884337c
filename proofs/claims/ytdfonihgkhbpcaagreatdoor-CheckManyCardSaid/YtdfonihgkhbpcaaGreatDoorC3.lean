/- Part of many_said. -/
import Derived.Test.YtdfonihgkhbpcaaGreatDoorB1
set_option maxRecDepth 100000
set_option maxHeartbeats 8000000
namespace Go.Proofs.YtdfonihgkhbpcaaGreatDoor
open Go Go.aG
theorem aK4:rK n8 tab gl 1000 60 5 (aGx false 29) []=some (aGy false 29,[]):=az5
theorem aK5:rK n8 tab gl 1000 60 5 (aGx true 27) []=some (aGy true 27,[]):=az5
theorem aK6:rK (aGD true 24) tab gl 1000 60 15 (aGB true 24) []=some (aGC true 24,[]):=az5
theorem aK7:rK (aGD false 30) tab gl 1000 60 15 (aGB false 30) []=some (aGC false 30,[]):=az5
theorem aK8:rK (aGD false 26) tab gl 1000 60 15 (aGB false 26) []=some (aGC false 26,[]):=az5
theorem aK9:rK n8 tab gl 1000 60 17 [.ptr 0 0] (R2 true 19 false)=some (aGo,R2 true 19 true):=az5
theorem aK':rK n8 tab gl 1000 60 18 [.ptr 0 0] (R2 false 25 true)=some (aGo,aGA false 25):=az5
theorem aLa:rK (X true 30) tab gl 1000 60 3 (aGu true 30) []=some (.d (.bool true),[]):=az5
theorem aLb:rK n8 tab gl 1000 60 3 (aGu false 40) []=some (.d (.bool true),[]):=az5
theorem aLc:rK n8 tab gl 1000 60 17 [.ptr 0 0] (R2 false 21 false)=some (aGo,R2 false 21 true):=az5
theorem aLd:rK (X false 28) tab gl 1000 60 3 (aGu false 28) []=some (.d (.bool true),[]):=az5
theorem aLe:rK n8 tab gl 1000 60 18 [.ptr 0 0] (R2 false 19 true)=some (aGo,aGA false 19):=az5
theorem aLf:rK (X true 19) tab gl 1000 60 3 (aGu true 19) []=some (.d (.bool true),[]):=az5
theorem aLg:rK n8 tab gl 1000 60 5 (aGx true 5) []=some (aGy true 5,[]):=az5
theorem aLh:rK (X true 14) tab gl 1000 60 3 (aGu true 14) []=some (.d (.bool true),[]):=az5
theorem aLi:rK n8 tab gl 1000 60 19 [.ptr 0 0] (aGq false 24 [])=some (aGo,aGq false 24 (cond false aGz [])):=az5
theorem aLj:rK n8 tab gl 1000 60 17 [.ptr 0 0] (R2 false 9 false)=some (aGo,R2 false 9 true):=az5
theorem aLk:rK n8 tab gl 1000 60 5 (aGx false 1) []=some (aGy false 1,[]):=az5
theorem aLl:rK n8 tab gl 1000 60 15 (EY (one false (aGp 8))) []=some (aGv (aGw false (aGp 8)),[]):=az5
theorem aLm:rK n8 tab gl 1000 60 15 (EY (one false (aGp 24))) []=some (aGv (aGw false (aGp 24)),[]):=az5
theorem aLn:rK n8 tab gl 1000 60 15 (EY (one true (aGp 8))) []=some (aGv (aGw true (aGp 8)),[]):=az5
theorem aLo:rK n8 tab gl 1000 60 15 (EY (one true (aGp 24))) []=some (aGv (aGw true (aGp 24)),[]):=az5
theorem aLp:rK n8 tab gl 1000 60 17 [.ptr 0 0] (R2 true 4 false)=some (aGo,R2 true 4 true):=az5
theorem aLq:rK (X true 5) tab gl 1000 60 3 (aGu true 5) []=some (.d (.bool true),[]):=az5
theorem aLr:rK n8 tab gl 1000 60 19 [.ptr 0 0] (aGq true 32 [])=some (aGo,aGq true 32 (cond true aGz [])):=az5
theorem aLs:rK (X false 3) tab gl 1000 60 3 (aGu false 3) []=some (.d (.bool true),[]):=az5
theorem aLt:rK n8 tab gl 1000 60 17 [.ptr 0 0] (R2 false 2 false)=some (aGo,R2 false 2 true):=az5
theorem aLu:rK (X true 2) tab gl 1000 60 3 (aGu true 2) []=some (.d (.bool true),[]):=az5
theorem aLv:rK n8 tab gl 1000 60 19 [.ptr 0 0] (aGq true 10 [])=some (aGo,aGq true 10 (cond true aGz [])):=az5
end Go.Proofs.YtdfonihgkhbpcaaGreatDoor
