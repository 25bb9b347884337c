/- Part of many_said. -/
import Derived.Test.YtdfonihgkhbpcaaGreatDoorB1
set_option maxRecDepth 100000
set_option maxHeartbeats 8000000
namespace Go.Proofs.YtdfonihgkhbpcaaGreatDoor
open Go Go.aG
theorem aP8:rK n8 tab gl 1000 60 5 (aGx true 32) []=some (aGy true 32,[]):=az5
theorem aP9:rK n8 tab gl 1000 60 5 (aGx true 31) []=some (aGy true 31,[]):=az5
theorem aP':rK (aGD true 28) tab gl 1000 60 15 (aGB true 28) []=some (aGC true 28,[]):=az5
theorem aQa:rK n8 tab gl 1000 60 5 (aGx false 13) []=some (aGy false 13,[]):=az5
theorem aQb:rK (aGD false 29) tab gl 1000 60 15 (aGB false 29) []=some (aGC false 29,[]):=az5
theorem aQc:rK (aGD false 24) tab gl 1000 60 15 (aGB false 24) []=some (aGC false 24,[]):=az5
theorem aQd:rK n8 tab gl 1000 60 18 [.ptr 0 0] (R2 false 26 true)=some (aGo,aGA false 26):=az5
theorem aQe:rK n8 tab gl 1000 60 18 [.ptr 0 0] (R2 false 24 true)=some (aGo,aGA false 24):=az5
theorem aQf:rK n8 tab gl 1000 60 3 (aGu false 36) []=some (.d (.bool true),[]):=az5
theorem aQg:rK (X true 29) tab gl 1000 60 3 (aGu true 29) []=some (.d (.bool true),[]):=az5
theorem aQh:rK (aGD false 12) tab gl 1000 60 15 (aGB false 12) []=some (aGC false 12,[]):=az5
theorem aQi:rK (X true 24) tab gl 1000 60 3 (aGu true 24) []=some (.d (.bool true),[]):=az5
theorem aQj:rK n8 tab gl 1000 60 18 [.ptr 0 0] (R2 false 16 true)=some (aGo,aGA false 16):=az5
theorem aQk:rK n8 tab gl 1000 60 17 [.ptr 0 0] (R2 false 14 false)=some (aGo,R2 false 14 true):=az5
theorem aQl:rK (X false 17) tab gl 1000 60 3 (aGu false 17) []=some (.d (.bool true),[]):=az5
theorem aQm:rK (X true 13) tab gl 1000 60 3 (aGu true 13) []=some (.d (.bool true),[]):=az5
theorem aQn:rK (X true 10) tab gl 1000 60 3 (aGu true 10) []=some (.d (.bool true),[]):=az5
theorem aQo:rK n8 tab gl 1000 60 17 [.ptr 0 0] (R2 false 8 false)=some (aGo,R2 false 8 true):=az5
theorem aQp:rK n8 tab gl 1000 60 15 (EY (one false (aGp 15))) []=some (aGv (aGw false (aGp 15)),[]):=az5
theorem aQq:rK n8 tab gl 1000 60 15 (EY (one false (aGp 31))) []=some (aGv (aGw false (aGp 31)),[]):=az5
theorem aQr:rK n8 tab gl 1000 60 15 (EY (one true (aGp 15))) []=some (aGv (aGw true (aGp 15)),[]):=az5
theorem aQs:rK n8 tab gl 1000 60 15 (EY (one true (aGp 31))) []=some (aGv (aGw true (aGp 31)),[]):=az5
theorem aQt:rK (X true 6) tab gl 1000 60 3 (aGu true 6) []=some (.d (.bool true),[]):=az5
theorem aQu:rK n8 tab gl 1000 60 18 [.ptr 0 0] (R2 true 28 true)=some (aGo,aGA true 28):=az5
theorem aQv:rK n8 tab gl 1000 60 19 [.ptr 0 0] (aGq true 26 [])=some (aGo,aGq true 26 (cond true aGz [])):=az5
theorem aQw:rK n8 tab gl 1000 60 19 [.ptr 0 0] (aGq false 5 [])=some (aGo,aGq false 5 (cond false aGz [])):=az5
theorem aQx:rK n8 tab gl 1000 60 19 [.ptr 0 0] (aGq false 2 [])=some (aGo,aGq false 2 (cond false aGz [])):=az5
theorem aQy:rK n8 tab gl 1000 60 19 [.ptr 0 0] (aGq true 3 [])=some (aGo,aGq true 3 (cond true aGz [])):=az5
theorem aQz:rK n8 tab gl 1000 60 19 [.ptr 0 0] (aGq true 11 [])=some (aGo,aGq true 11 (cond true aGz [])):=az5
end Go.Proofs.YtdfonihgkhbpcaaGreatDoor
