/- Part of many_said. -/
import Derived.Test.YtdfonihgkhbpcaaGreatDoorB1
set_option maxRecDepth 100000
set_option maxHeartbeats 8000000
namespace Go.Proofs.YtdfonihgkhbpcaaGreatDoor
open Go Go.aG
theorem aQA:rK n8 tab gl 1000 60 17 [.ptr 0 0] (R2 true 30 false)=some (aGo,R2 true 30 true):=az5
theorem aQB:rK n8 tab gl 1000 60 5 (aGx false 20) []=some (aGy false 20,[]):=az5
theorem aQC:rK n8 tab gl 1000 60 5 (aGx false 16) []=some (aGy false 16,[]):=az5
theorem aQD:rK (aGD true 23) tab gl 1000 60 15 (aGB true 23) []=some (aGC true 23,[]):=az5
theorem aQE:rK n8 tab gl 1000 60 5 (aGx true 18) []=some (aGy true 18,[]):=az5
theorem aQF:rK (aGD true 17) tab gl 1000 60 15 (aGB true 17) []=some (aGC true 17,[]):=az5
theorem aQG:rK (aGD false 21) tab gl 1000 60 15 (aGB false 21) []=some (aGC false 21,[]):=az5
theorem aQH:rK n8 tab gl 1000 60 5 (aGx false 7) []=some (aGy false 7,[]):=az5
theorem aQI:rK n8 tab gl 1000 60 3 (aGu false 38) []=some (.d (.bool true),[]):=az5
theorem aQJ:rK n8 tab gl 1000 60 17 [.ptr 0 0] (R2 true 15 false)=some (aGo,R2 true 15 true):=az5
theorem aQK:rK n8 tab gl 1000 60 5 (aGx false 5) []=some (aGy false 5,[]):=az5
theorem aQL:rK n8 tab gl 1000 60 5 (aGx true 7) []=some (aGy true 7,[]):=az5
theorem aQM:rK n8 tab gl 1000 60 17 [.ptr 0 0] (R2 false 15 false)=some (aGo,R2 false 15 true):=az5
theorem aQN:rK n8 tab gl 1000 60 19 [.ptr 0 0] (aGq false 31 [])=some (aGo,aGq false 31 (cond false aGz [])):=az5
theorem aQO:rK (X true 15) tab gl 1000 60 3 (aGu true 15) []=some (.d (.bool true),[]):=az5
theorem aQP:rK (X false 15) tab gl 1000 60 3 (aGu false 15) []=some (.d (.bool true),[]):=az5
theorem aQQ:rK n8 tab gl 1000 60 19 [.ptr 0 0] (aGq false 17 [])=some (aGo,aGq false 17 (cond false aGz [])):=az5
theorem aQR:rK (X false 10) tab gl 1000 60 3 (aGu false 10) []=some (.d (.bool true),[]):=az5
theorem aQS:rK n8 tab gl 1000 60 15 (EY (one false (aGp 7))) []=some (aGv (aGw false (aGp 7)),[]):=az5
theorem aQT:rK n8 tab gl 1000 60 15 (EY (one false (aGp 23))) []=some (aGv (aGw false (aGp 23)),[]):=az5
theorem aQU:rK n8 tab gl 1000 60 15 (EY (one true (aGp 7))) []=some (aGv (aGw true (aGp 7)),[]):=az5
theorem aQV:rK n8 tab gl 1000 60 15 (EY (one true (aGp 23))) []=some (aGv (aGw true (aGp 23)),[]):=az5
theorem aQW:rK n8 tab gl 1000 60 17 [.ptr 0 0] (R2 false 6 false)=some (aGo,R2 false 6 true):=az5
theorem aQX:rK (aGD false 1) tab gl 1000 60 15 (aGB false 1) []=some (aGC false 1,[]):=az5
theorem aQY:rK n8 tab gl 1000 60 19 [.ptr 0 0] (aGq true 31 [])=some (aGo,aGq true 31 (cond true aGz [])):=az5
theorem aQZ:rK n8 tab gl 1000 60 18 [.ptr 0 0] (R2 true 16 true)=some (aGo,aGA true 16):=az5
theorem aQ0:rK n8 tab gl 1000 60 19 [.ptr 0 0] (aGq true 19 [])=some (aGo,aGq true 19 (cond true aGz [])):=az5
theorem aQ1:rK n8 tab gl 1000 60 18 [.ptr 0 0] (R2 true 5 true)=some (aGo,aGA true 5):=az5
theorem aQ2:rK n8 tab gl 1000 60 18 [.ptr 0 0] (R2 true 13 true)=some (aGo,aGA true 13):=az5
end Go.Proofs.YtdfonihgkhbpcaaGreatDoor
