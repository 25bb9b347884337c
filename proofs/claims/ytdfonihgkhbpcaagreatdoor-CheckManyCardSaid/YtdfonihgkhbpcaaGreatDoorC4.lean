/- Part of many_said. -/
import Derived.Test.YtdfonihgkhbpcaaGreatDoorB1
set_option maxRecDepth 100000
set_option maxHeartbeats 8000000
namespace Go.Proofs.YtdfonihgkhbpcaaGreatDoor
open Go Go.aG
theorem aLw:rK n8 tab gl 1000 60 5 (aGx false 28) []=some (aGy false 28,[]):=az5
theorem aLx:rK (aGD true 30) tab gl 1000 60 15 (aGB true 30) []=some (aGC true 30,[]):=az5
theorem aLy:rK n8 tab gl 1000 60 5 (aGx true 23) []=some (aGy true 23,[]):=az5
theorem aLz:rK n8 tab gl 1000 60 5 (aGx true 19) []=some (aGy true 19,[]):=az5
theorem aLA:rK n8 tab gl 1000 60 5 (aGx true 17) []=some (aGy true 17,[]):=az5
theorem aLB:rK n8 tab gl 1000 60 17 [.ptr 0 0] (R2 false 27 false)=some (aGo,R2 false 27 true):=az5
theorem aLC:rK (aGD false 19) tab gl 1000 60 15 (aGB false 19) []=some (aGC false 19,[]):=az5
theorem aLD:rK (X true 31) tab gl 1000 60 3 (aGu true 31) []=some (.d (.bool true),[]):=az5
theorem aLE:rK n8 tab gl 1000 60 3 (aGu true 40) []=some (.d (.bool true),[]):=az5
theorem aLF:rK (X false 30) tab gl 1000 60 3 (aGu false 30) []=some (.d (.bool true),[]):=az5
theorem aLG:rK (X false 29) tab gl 1000 60 3 (aGu false 29) []=some (.d (.bool true),[]):=az5
theorem aLH:rK (aGD false 10) tab gl 1000 60 15 (aGB false 10) []=some (aGC false 10,[]):=az5
theorem aLI:rK (X false 23) tab gl 1000 60 3 (aGu false 23) []=some (.d (.bool true),[]):=az5
theorem aLJ:rK n8 tab gl 1000 60 18 [.ptr 0 0] (R2 false 15 true)=some (aGo,aGA false 15):=az5
theorem aLK:rK (aGD true 4) tab gl 1000 60 15 (aGB true 4) []=some (aGC true 4,[]):=az5
theorem aLL:rK n8 tab gl 1000 60 5 (aGx true 3) []=some (aGy true 3,[]):=az5
theorem aLM:rK n8 tab gl 1000 60 5 (aGx true 2) []=some (aGy true 2,[]):=az5
theorem aLN:rK (aGD false 3) tab gl 1000 60 15 (aGB false 3) []=some (aGC false 3,[]):=az5
theorem aLO:rK n8 tab gl 1000 60 15 (EY (one false (aGp 17))) []=some (aGv (aGw false (aGp 17)),[]):=az5
theorem aLP:rK n8 tab gl 1000 60 15 (EY (one true (aGp 1))) []=some (aGv (aGw true (aGp 1)),[]):=az5
theorem aLQ:rK n8 tab gl 1000 60 15 (EY (one true (aGp 17))) []=some (aGv (aGw true (aGp 17)),[]):=az5
theorem aLR:rK (aGD false 2) tab gl 1000 60 15 (aGB false 2) []=some (aGC false 2,[]):=az5
theorem aLS:rK n8 tab gl 1000 60 5 (aGx true 1) []=some (aGy true 1,[]):=az5
theorem aLT:rK n8 tab gl 1000 60 18 [.ptr 0 0] (R2 false 6 true)=some (aGo,aGA false 6):=az5
theorem aLU:rK n8 tab gl 1000 60 17 [.ptr 0 0] (R2 false 4 false)=some (aGo,R2 false 4 true):=az5
theorem aLV:rK n8 tab gl 1000 60 19 [.ptr 0 0] (aGq true 20 [])=some (aGo,aGq true 20 (cond true aGz [])):=az5
theorem aLW:rK n8 tab gl 1000 60 18 [.ptr 0 0] (R2 false 1 true)=some (aGo,aGA false 1):=az5
theorem aLX:rK (X true 1) tab gl 1000 60 3 (aGu true 1) []=some (.d (.bool true),[]):=az5
theorem aLY:rK n8 tab gl 1000 60 18 [.ptr 0 0] (R2 true 9 true)=some (aGo,aGA true 9):=az5
end Go.Proofs.YtdfonihgkhbpcaaGreatDoor
