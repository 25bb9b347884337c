/- Part of many_said. -/
import Derived.Test.YtdfonihgkhbpcaaGreatDoorB1
set_option maxRecDepth 100000
set_option maxHeartbeats 8000000
namespace Go.Proofs.YtdfonihgkhbpcaaGreatDoor
open Go Go.aG
theorem aKC:rK n8 tab gl 1000 60 5 (aGx false 30) []=some (aGy false 30,[]):=az5
theorem aKD:rK (aGD true 29) tab gl 1000 60 15 (aGB true 29) []=some (aGC true 29,[]):=az5
theorem aKE:rK n8 tab gl 1000 60 5 (aGx false 14) []=some (aGy false 14,[]):=az5
theorem aKF:rK n8 tab gl 1000 60 5 (aGx false 12) []=some (aGy false 12,[]):=az5
theorem aKG:rK (aGD true 18) tab gl 1000 60 15 (aGB true 18) []=some (aGC true 18,[]):=az5
theorem aKH:rK n8 tab gl 1000 60 18 [.ptr 0 0] (R2 false 27 true)=some (aGo,aGA false 27):=az5
theorem aKI:rK n8 tab gl 1000 60 17 [.ptr 0 0] (R2 true 17 false)=some (aGo,R2 true 17 true):=az5
theorem aKJ:rK (aGD false 16) tab gl 1000 60 15 (aGB false 16) []=some (aGC false 16,[]):=az5
theorem aKK:rK n8 tab gl 1000 60 3 (aGu true 36) []=some (.d (.bool true),[]):=az5
theorem aKL:rK (X true 28) tab gl 1000 60 3 (aGu true 28) []=some (.d (.bool true),[]):=az5
theorem aKM:rK n8 tab gl 1000 60 5 (aGx true 8) []=some (aGy true 8,[]):=az5
theorem aKN:rK n8 tab gl 1000 60 17 [.ptr 0 0] (R2 true 12 false)=some (aGo,R2 true 12 true):=az5
theorem aKO:rK (X true 21) tab gl 1000 60 3 (aGu true 21) []=some (.d (.bool true),[]):=az5
theorem aKP:rK (X false 18) tab gl 1000 60 3 (aGu false 18) []=some (.d (.bool true),[]):=az5
theorem aKQ:rK n8 tab gl 1000 60 19 [.ptr 0 0] (aGq false 28 [])=some (aGo,aGq false 28 (cond false aGz [])):=az5
theorem s1_3:rK (aGD true 3) tab gl 1000 60 15 (aGB true 3) []=some (aGC true 3,[]):=az5
theorem aKR:rK (X false 12) tab gl 1000 60 3 (aGu false 12) []=some (.d (.bool true),[]):=az5
theorem aKS:rK n8 tab gl 1000 60 18 [.ptr 0 0] (R2 false 9 true)=some (aGo,aGA false 9):=az5
theorem aKT:rK n8 tab gl 1000 60 15 (EY (one false (aGp 9))) []=some (aGv (aGw false (aGp 9)),[]):=az5
theorem aKU:rK n8 tab gl 1000 60 15 (EY (one false (aGp 25))) []=some (aGv (aGw false (aGp 25)),[]):=az5
theorem aKV:rK n8 tab gl 1000 60 15 (EY (one true (aGp 9))) []=some (aGv (aGw true (aGp 9)),[]):=az5
theorem aKW:rK n8 tab gl 1000 60 15 (EY (one true (aGp 25))) []=some (aGv (aGw true (aGp 25)),[]):=az5
theorem aKX:rK n8 tab gl 1000 60 19 [.ptr 0 0] (aGq false 11 [])=some (aGo,aGq false 11 (cond false aGz [])):=az5
theorem aKY:rK (X false 6) tab gl 1000 60 3 (aGu false 6) []=some (.d (.bool true),[]):=az5
theorem aKZ:rK n8 tab gl 1000 60 18 [.ptr 0 0] (R2 true 20 true)=some (aGo,aGA true 20):=az5
theorem aK0:rK n8 tab gl 1000 60 17 [.ptr 0 0] (R2 false 3 false)=some (aGo,R2 false 3 true):=az5
theorem aK1:rK (X false 2) tab gl 1000 60 3 (aGu false 2) []=some (.d (.bool true),[]):=az5
theorem aK2:rK n8 tab gl 1000 60 19 [.ptr 0 0] (aGq true 4 [])=some (aGo,aGq true 4 (cond true aGz [])):=az5
theorem aK3:rK n8 tab gl 1000 60 19 [.ptr 0 0] (aGq true 12 [])=some (aGo,aGq true 12 (cond true aGz [])):=az5
end Go.Proofs.YtdfonihgkhbpcaaGreatDoor
