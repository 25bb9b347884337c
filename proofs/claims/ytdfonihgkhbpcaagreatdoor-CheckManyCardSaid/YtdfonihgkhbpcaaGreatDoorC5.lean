/- Part of many_said. -/
import Derived.Test.YtdfonihgkhbpcaaGreatDoorB1
set_option maxRecDepth 100000
set_option maxHeartbeats 8000000
namespace Go.Proofs.YtdfonihgkhbpcaaGreatDoor
open Go Go.aG
theorem aLZ:rK n8 tab gl 1000 60 5 (aGx false 27) []=some (aGy false 27,[]):=az5
theorem aL0:rK n8 tab gl 1000 60 5 (aGx true 28) []=some (aGy true 28,[]):=az5
theorem aL1:rK (aGD true 25) tab gl 1000 60 15 (aGB true 25) []=some (aGC true 25,[]):=az5
theorem aL2:rK n8 tab gl 1000 60 17 [.ptr 0 0] (R2 false 32 false)=some (aGo,R2 false 32 true):=az5
theorem aL3:rK n8 tab gl 1000 60 5 (aGx false 11) []=some (aGy false 11,[]):=az5
theorem aL4:rK (aGD false 23) tab gl 1000 60 15 (aGB false 23) []=some (aGC false 23,[]):=az5
theorem aL5:rK n8 tab gl 1000 60 5 (aGx false 8) []=some (aGy false 8,[]):=az5
theorem aL6:rK n8 tab gl 1000 60 18 [.ptr 0 0] (R2 false 23 true)=some (aGo,aGA false 23):=az5
theorem aL7:rK n8 tab gl 1000 60 3 (aGu true 33) []=some (.d (.bool true),[]):=az5
theorem aL8:rK n8 tab gl 1000 60 18 [.ptr 0 0] (R2 false 22 true)=some (aGo,aGA false 22):=az5
theorem aL9:rK (X true 26) tab gl 1000 60 3 (aGu true 26) []=some (.d (.bool true),[]):=az5
theorem aL':rK n8 tab gl 1000 60 17 [.ptr 0 0] (R2 false 17 false)=some (aGo,R2 false 17 true):=az5
theorem aMa:rK n8 tab gl 1000 60 18 [.ptr 0 0] (R2 false 17 true)=some (aGo,aGA false 17):=az5
theorem aMb:rK (aGD false 7) tab gl 1000 60 15 (aGB false 7) []=some (aGC false 7,[]):=az5
theorem aMc:rK n8 tab gl 1000 60 5 (aGx true 4) []=some (aGy true 4,[]):=az5
theorem aMd:rK n8 tab gl 1000 60 17 [.ptr 0 0] (R2 true 7 false)=some (aGo,R2 true 7 true):=az5
theorem aMe:rK (X true 12) tab gl 1000 60 3 (aGu true 12) []=some (.d (.bool true),[]):=az5
theorem aMf:rK n8 tab gl 1000 60 15 (EY (one false (aGp 1))) []=some (aGv (aGw false (aGp 1)),[]):=az5
theorem aMg:rK n8 tab gl 1000 60 15 (EY (one false (aGp 13))) []=some (aGv (aGw false (aGp 13)),[]):=az5
theorem aMh:rK n8 tab gl 1000 60 15 (EY (one false (aGp 29))) []=some (aGv (aGw false (aGp 29)),[]):=az5
theorem aMi:rK n8 tab gl 1000 60 15 (EY (one true (aGp 13))) []=some (aGv (aGw true (aGp 13)),[]):=az5
theorem aMj:rK n8 tab gl 1000 60 15 (EY (one true (aGp 29))) []=some (aGv (aGw true (aGp 29)),[]):=az5
theorem aMk:rK n8 tab gl 1000 60 18 [.ptr 0 0] (R2 true 29 true)=some (aGo,aGA true 29):=az5
theorem aMl:rK n8 tab gl 1000 60 17 [.ptr 0 0] (R2 false 5 false)=some (aGo,R2 false 5 true):=az5
theorem aMm:rK (X false 4) tab gl 1000 60 3 (aGu false 4) []=some (.d (.bool true),[]):=az5
theorem aMn:rK n8 tab gl 1000 60 18 [.ptr 0 0] (R2 true 18 true)=some (aGo,aGA true 18):=az5
theorem aMo:rK n8 tab gl 1000 60 19 [.ptr 0 0] (aGq false 3 [])=some (aGo,aGq false 3 (cond false aGz [])):=az5
theorem aMp:rK n8 tab gl 1000 60 19 [.ptr 0 0] (aGq true 6 [])=some (aGo,aGq true 6 (cond true aGz [])):=az5
theorem aMq:rK n8 tab gl 1000 60 19 [.ptr 0 0] (aGq true 14 [])=some (aGo,aGq true 14 (cond true aGz [])):=az5
end Go.Proofs.YtdfonihgkhbpcaaGreatDoor
