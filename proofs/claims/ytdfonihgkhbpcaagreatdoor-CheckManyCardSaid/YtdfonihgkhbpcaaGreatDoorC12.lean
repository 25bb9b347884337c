/- Part of many_said. -/
import Derived.Test.YtdfonihgkhbpcaaGreatDoorB1
set_option maxRecDepth 100000
set_option maxHeartbeats 8000000
namespace Go.Proofs.YtdfonihgkhbpcaaGreatDoor
open Go Go.aG
theorem aPc:rK n8 tab gl 1000 60 17 [.ptr 0 0] (R2 true 31 false)=some (aGo,R2 true 31 true):=az5
theorem aPd:rK n8 tab gl 1000 60 17 [.ptr 0 0] (R2 true 29 false)=some (aGo,R2 true 29 true):=az5
theorem aPe:rK (aGD true 27) tab gl 1000 60 15 (aGB true 27) []=some (aGC true 27,[]):=az5
theorem aPf:rK n8 tab gl 1000 60 5 (aGx true 21) []=some (aGy true 21,[]):=az5
theorem aPg:rK n8 tab gl 1000 60 17 [.ptr 0 0] (R2 false 31 false)=some (aGo,R2 false 31 true):=az5
theorem aPh:rK n8 tab gl 1000 60 17 [.ptr 0 0] (R2 false 28 false)=some (aGo,R2 false 28 true):=az5
theorem aPi:rK n8 tab gl 1000 60 17 [.ptr 0 0] (R2 true 18 false)=some (aGo,R2 true 18 true):=az5
theorem aPj:rK n8 tab gl 1000 60 17 [.ptr 0 0] (R2 false 23 false)=some (aGo,R2 false 23 true):=az5
theorem aPk:rK n8 tab gl 1000 60 3 (aGu false 35) []=some (.d (.bool true),[]):=az5
theorem aPl:rK n8 tab gl 1000 60 5 (aGx true 10) []=some (aGy true 10,[]):=az5
theorem aPm:rK n8 tab gl 1000 60 17 [.ptr 0 0] (R2 true 13 false)=some (aGo,R2 true 13 true):=az5
theorem aPn:rK n8 tab gl 1000 60 17 [.ptr 0 0] (R2 false 18 false)=some (aGo,R2 false 18 true):=az5
theorem aPo:rK n8 tab gl 1000 60 19 [.ptr 0 0] (aGq false 32 [])=some (aGo,aGq false 32 (cond false aGz [])):=az5
theorem aPp:rK (X false 20) tab gl 1000 60 3 (aGu false 20) []=some (.d (.bool true),[]):=az5
theorem aPq:rK (X false 16) tab gl 1000 60 3 (aGu false 16) []=some (.d (.bool true),[]):=az5
theorem aPr:rK (aGD false 5) tab gl 1000 60 15 (aGB false 5) []=some (aGC false 5,[]):=az5
theorem aPs:rK n8 tab gl 1000 60 17 [.ptr 0 0] (R2 true 6 false)=some (aGo,R2 true 6 true):=az5
theorem aPt:rK n8 tab gl 1000 60 19 [.ptr 0 0] (aGq false 16 [])=some (aGo,aGq false 16 (cond false aGz [])):=az5
theorem aPu:rK n8 tab gl 1000 60 15 (EY (one false (aGp 11))) []=some (aGv (aGw false (aGp 11)),[]):=az5
theorem aPv:rK n8 tab gl 1000 60 15 (EY (one false (aGp 27))) []=some (aGv (aGw false (aGp 27)),[]):=az5
theorem aPw:rK n8 tab gl 1000 60 15 (EY (one true (aGp 11))) []=some (aGv (aGw true (aGp 11)),[]):=az5
theorem aPx:rK n8 tab gl 1000 60 15 (EY (one true (aGp 27))) []=some (aGv (aGw true (aGp 27)),[]):=az5
theorem aPy:rK n8 tab gl 1000 60 18 [.ptr 0 0] (R2 true 30 true)=some (aGo,aGA true 30):=az5
theorem aPz:rK n8 tab gl 1000 60 19 [.ptr 0 0] (aGq false 9 [])=some (aGo,aGq false 9 (cond false aGz [])):=az5
theorem aPA:rK n8 tab gl 1000 60 19 [.ptr 0 0] (aGq true 28 [])=some (aGo,aGq true 28 (cond true aGz [])):=az5
theorem aPB:rK n8 tab gl 1000 60 18 [.ptr 0 0] (R2 true 19 true)=some (aGo,aGA true 19):=az5
theorem aPC:rK n8 tab gl 1000 60 18 [.ptr 0 0] (R2 true 1 true)=some (aGo,aGA true 1):=az5
theorem aPD:rK n8 tab gl 1000 60 18 [.ptr 0 0] (R2 true 8 true)=some (aGo,aGA true 8):=az5
theorem aPE:rK n8 tab gl 1000 60 19 [.ptr 0 0] (aGq true 17 [])=some (aGo,aGq true 17 (cond true aGz [])):=az5
end Go.Proofs.YtdfonihgkhbpcaaGreatDoor
