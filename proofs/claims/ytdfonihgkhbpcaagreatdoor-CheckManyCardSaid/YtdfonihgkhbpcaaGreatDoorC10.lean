/- Part of many_said. -/
import Derived.Test.YtdfonihgkhbpcaaGreatDoorB1
set_option maxRecDepth 100000
set_option maxHeartbeats 8000000
namespace Go.Proofs.YtdfonihgkhbpcaaGreatDoor
open Go Go.aG
theorem aOh:rK n8 tab gl 1000 60 17 [.ptr 0 0] (R2 true 32 false)=some (aGo,R2 true 32 true):=az5
theorem aOi:rK (aGD true 32) tab gl 1000 60 15 (aGB true 32) []=some (aGC true 32,[]):=az5
theorem aOj:rK (aGD true 26) tab gl 1000 60 15 (aGB true 26) []=some (aGC true 26,[]):=az5
theorem aOk:rK (aGD true 22) tab gl 1000 60 15 (aGB true 22) []=some (aGC true 22,[]):=az5
theorem aOl:rK (aGD true 19) tab gl 1000 60 15 (aGB true 19) []=some (aGC true 19,[]):=az5
theorem aOm:rK (aGD false 25) tab gl 1000 60 15 (aGB false 25) []=some (aGC false 25,[]):=az5
theorem aOn:rK (aGD true 15) tab gl 1000 60 15 (aGB true 15) []=some (aGC true 15,[]):=az5
theorem aOo:rK (aGD false 17) tab gl 1000 60 15 (aGB false 17) []=some (aGC false 17,[]):=az5
theorem aOp:rK n8 tab gl 1000 60 3 (aGu true 37) []=some (.d (.bool true),[]):=az5
theorem aOq:rK (aGD true 10) tab gl 1000 60 15 (aGB true 10) []=some (aGC true 10,[]):=az5
theorem aOr:rK n8 tab gl 1000 60 17 [.ptr 0 0] (R2 false 19 false)=some (aGo,R2 false 19 true):=az5
theorem aOs:rK (aGD false 11) tab gl 1000 60 15 (aGB false 11) []=some (aGC false 11,[]):=az5
theorem aOt:rK (X false 21) tab gl 1000 60 3 (aGu false 21) []=some (.d (.bool true),[]):=az5
theorem aOu:rK n8 tab gl 1000 60 17 [.ptr 0 0] (R2 true 10 false)=some (aGo,R2 true 10 true):=az5
theorem aOv:rK n8 tab gl 1000 60 17 [.ptr 0 0] (R2 true 8 false)=some (aGo,R2 true 8 true):=az5
theorem aOw:rK n8 tab gl 1000 60 18 [.ptr 0 0] (R2 false 13 true)=some (aGo,aGA false 13):=az5
theorem aOx:rK n8 tab gl 1000 60 19 [.ptr 0 0] (aGq false 18 [])=some (aGo,aGq false 18 (cond false aGz [])):=az5
theorem aOy:rK n8 tab gl 1000 60 19 [.ptr 0 0] (aGq false 15 [])=some (aGo,aGq false 15 (cond false aGz [])):=az5
theorem aOz:rK n8 tab gl 1000 60 15 (EY (one false (aGp 3))) []=some (aGv (aGw false (aGp 3)),[]):=az5
theorem aOA:rK n8 tab gl 1000 60 15 (EY (one false (aGp 19))) []=some (aGv (aGw false (aGp 19)),[]):=az5
theorem aOB:rK n8 tab gl 1000 60 15 (EY (one true (aGp 3))) []=some (aGv (aGw true (aGp 3)),[]):=az5
theorem aOC:rK n8 tab gl 1000 60 15 (EY (one true (aGp 19))) []=some (aGv (aGw true (aGp 19)),[]):=az5
theorem aOD:rK (X false 8) tab gl 1000 60 3 (aGu false 8) []=some (.d (.bool true),[]):=az5
theorem aOE:rK (X false 5) tab gl 1000 60 3 (aGu false 5) []=some (.d (.bool true),[]):=az5
theorem aOF:rK (X true 4) tab gl 1000 60 3 (aGu true 4) []=some (.d (.bool true),[]):=az5
theorem aOG:rK n8 tab gl 1000 60 19 [.ptr 0 0] (aGq true 24 [])=some (aGo,aGq true 24 (cond true aGz [])):=az5
theorem aOH:rK n8 tab gl 1000 60 19 [.ptr 0 0] (aGq false 4 [])=some (aGo,aGq false 4 (cond false aGz [])):=az5
theorem aOI:rK n8 tab gl 1000 60 18 [.ptr 0 0] (R2 true 7 true)=some (aGo,aGA true 7):=az5
theorem aOJ:rK n8 tab gl 1000 60 19 [.ptr 0 0] (aGq true 15 [])=some (aGo,aGq true 15 (cond true aGz [])):=az5
end Go.Proofs.YtdfonihgkhbpcaaGreatDoor
