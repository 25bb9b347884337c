/- Part of many_said. -/
import Derived.Test.YtdfonihgkhbpcaaGreatDoorB1
set_option maxRecDepth 100000
set_option maxHeartbeats 8000000
namespace Go.Proofs.YtdfonihgkhbpcaaGreatDoor
open Go Go.aG
theorem aJ':rK n8 tab gl 1000 60 5 (aGx false 31) []=some (aGy false 31,[]):=az5
theorem aKa:rK n8 tab gl 1000 60 5 (aGx false 17) []=some (aGy false 17,[]):=az5
theorem aKb:rK n8 tab gl 1000 60 5 (aGx true 22) []=some (aGy true 22,[]):=az5
theorem aKc:rK n8 tab gl 1000 60 18 [.ptr 0 0] (R2 false 31 true)=some (aGo,aGA false 31):=az5
theorem aKd:rK n8 tab gl 1000 60 17 [.ptr 0 0] (R2 false 29 false)=some (aGo,R2 false 29 true):=az5
theorem aKe:rK n8 tab gl 1000 60 5 (aGx false 9) []=some (aGy false 9,[]):=az5
theorem aKf:rK (aGD true 13) tab gl 1000 60 15 (aGB true 13) []=some (aGC true 13,[]):=az5
theorem aKg:rK n8 tab gl 1000 60 3 (aGu false 33) []=some (.d (.bool true),[]):=az5
theorem aKh:rK n8 tab gl 1000 60 17 [.ptr 0 0] (R2 false 22 false)=some (aGo,R2 false 22 true):=az5
theorem aKi:rK (X true 27) tab gl 1000 60 3 (aGu true 27) []=some (.d (.bool true),[]):=az5
theorem aKj:rK (X false 27) tab gl 1000 60 3 (aGu false 27) []=some (.d (.bool true),[]):=az5
theorem aKk:rK (X true 23) tab gl 1000 60 3 (aGu true 23) []=some (.d (.bool true),[]):=az5
theorem aKl:rK (aGD true 6) tab gl 1000 60 15 (aGB true 6) []=some (aGC true 6,[]):=az5
theorem aKm:rK n8 tab gl 1000 60 19 [.ptr 0 0] (aGq false 30 [])=some (aGo,aGq false 30 (cond false aGz [])):=az5
theorem aKn:rK n8 tab gl 1000 60 18 [.ptr 0 0] (R2 false 14 true)=some (aGo,aGA false 14):=az5
theorem aKo:rK n8 tab gl 1000 60 19 [.ptr 0 0] (aGq false 22 [])=some (aGo,aGq false 22 (cond false aGz [])):=az5
theorem aKp:rK (X true 11) tab gl 1000 60 3 (aGu true 11) []=some (.d (.bool true),[]):=az5
theorem aKq:rK n8 tab gl 1000 60 17 [.ptr 0 0] (R2 true 5 false)=some (aGo,R2 true 5 true):=az5
theorem aKr:rK n8 tab gl 1000 60 15 (EY (one false (aGp 4))) []=some (aGv (aGw false (aGp 4)),[]):=az5
theorem aKs:rK n8 tab gl 1000 60 15 (EY (one false (aGp 20))) []=some (aGv (aGw false (aGp 20)),[]):=az5
theorem aKt:rK n8 tab gl 1000 60 15 (EY (one true (aGp 4))) []=some (aGv (aGw true (aGp 4)),[]):=az5
theorem aKu:rK n8 tab gl 1000 60 15 (EY (one true (aGp 20))) []=some (aGv (aGw true (aGp 20)),[]):=az5
theorem aKv:rK (X true 7) tab gl 1000 60 3 (aGu true 7) []=some (.d (.bool true),[]):=az5
theorem aKw:rK n8 tab gl 1000 60 17 [.ptr 0 0] (R2 true 3 false)=some (aGo,R2 true 3 true):=az5
theorem aKx:rK n8 tab gl 1000 60 19 [.ptr 0 0] (aGq false 7 [])=some (aGo,aGq false 7 (cond false aGz [])):=az5
theorem aKy:rK n8 tab gl 1000 60 18 [.ptr 0 0] (R2 true 17 true)=some (aGo,aGA true 17):=az5
theorem aKz:rK n8 tab gl 1000 60 17 [.ptr 0 0] (R2 false 1 false)=some (aGo,R2 false 1 true):=az5
theorem aKA:rK n8 tab gl 1000 60 19 [.ptr 0 0] (aGq true 1 [])=some (aGo,aGq true 1 (cond true aGz [])):=az5
theorem aKB:rK n8 tab gl 1000 60 19 [.ptr 0 0] (aGq true 8 [])=some (aGo,aGq true 8 (cond true aGz [])):=az5
end Go.Proofs.YtdfonihgkhbpcaaGreatDoor
