/- Part of many_said. -/
import Derived.Test.YtdfonihgkhbpcaaGreatDoorB1
set_option maxRecDepth 100000
set_option maxHeartbeats 8000000
namespace Go.Proofs.YtdfonihgkhbpcaaGreatDoor
open Go Go.aG
theorem aNm:rK n8 tab gl 1000 60 5 (aGx false 24) []=some (aGy false 24,[]):=az5
theorem aNn:rK (aGD true 31) tab gl 1000 60 15 (aGB true 31) []=some (aGC true 31,[]):=az5
theorem aNo:rK n8 tab gl 1000 60 5 (aGx true 24) []=some (aGy true 24,[]):=az5
theorem aNp:rK n8 tab gl 1000 60 5 (aGx true 20) []=some (aGy true 20,[]):=az5
theorem aNq:rK n8 tab gl 1000 60 17 [.ptr 0 0] (R2 false 30 false)=some (aGo,R2 false 30 true):=az5
theorem aNr:rK n8 tab gl 1000 60 5 (aGx false 10) []=some (aGy false 10,[]):=az5
theorem aNs:rK (aGD false 20) tab gl 1000 60 15 (aGB false 20) []=some (aGC false 20,[]):=az5
theorem aNt:rK n8 tab gl 1000 60 17 [.ptr 0 0] (R2 false 24 false)=some (aGo,R2 false 24 true):=az5
theorem aNu:rK n8 tab gl 1000 60 3 (aGu true 39) []=some (.d (.bool true),[]):=az5
theorem aNv:rK n8 tab gl 1000 60 5 (aGx true 9) []=some (aGy true 9,[]):=az5
theorem aNw:rK n8 tab gl 1000 60 18 [.ptr 0 0] (R2 false 21 true)=some (aGo,aGA false 21):=az5
theorem aNx:rK (X false 24) tab gl 1000 60 3 (aGu false 24) []=some (.d (.bool true),[]):=az5
theorem aNy:rK (X true 20) tab gl 1000 60 3 (aGu true 20) []=some (.d (.bool true),[]):=az5
theorem aNz:rK n8 tab gl 1000 60 5 (aGx false 3) []=some (aGy false 3,[]):=az5
theorem aNA:rK n8 tab gl 1000 60 17 [.ptr 0 0] (R2 false 12 false)=some (aGo,R2 false 12 true):=az5
theorem aNB:rK n8 tab gl 1000 60 5 (aGx false 2) []=some (aGy false 2,[]):=az5
theorem aNC:rK n8 tab gl 1000 60 18 [.ptr 0 0] (R2 false 10 true)=some (aGo,aGA false 10):=az5
theorem aND:rK (X true 9) tab gl 1000 60 3 (aGu true 9) []=some (.d (.bool true),[]):=az5
theorem aNE:rK n8 tab gl 1000 60 15 (EY (one false (aGp 6))) []=some (aGv (aGw false (aGp 6)),[]):=az5
theorem aNF:rK n8 tab gl 1000 60 15 (EY (one false (aGp 22))) []=some (aGv (aGw false (aGp 22)),[]):=az5
theorem aNG:rK n8 tab gl 1000 60 15 (EY (one true (aGp 6))) []=some (aGv (aGw true (aGp 6)),[]):=az5
theorem aNH:rK n8 tab gl 1000 60 15 (EY (one true (aGp 22))) []=some (aGv (aGw true (aGp 22)),[]):=az5
theorem aNI:rK n8 tab gl 1000 60 18 [.ptr 0 0] (R2 true 32 true)=some (aGo,aGA true 32):=az5
theorem aNJ:rK n8 tab gl 1000 60 18 [.ptr 0 0] (R2 true 24 true)=some (aGo,aGA true 24):=az5
theorem aNK:rK n8 tab gl 1000 60 19 [.ptr 0 0] (aGq true 30 [])=some (aGo,aGq true 30 (cond true aGz [])):=az5
theorem aNL:rK n8 tab gl 1000 60 17 [.ptr 0 0] (R2 true 2 false)=some (aGo,R2 true 2 true):=az5
theorem aNM:rK n8 tab gl 1000 60 18 [.ptr 0 0] (R2 true 15 true)=some (aGo,aGA true 15):=az5
theorem aNN:rK n8 tab gl 1000 60 18 [.ptr 0 0] (R2 true 6 true)=some (aGo,aGA true 6):=az5
theorem aNO:rK n8 tab gl 1000 60 18 [.ptr 0 0] (R2 true 14 true)=some (aGo,aGA true 14):=az5
end Go.Proofs.YtdfonihgkhbpcaaGreatDoor
