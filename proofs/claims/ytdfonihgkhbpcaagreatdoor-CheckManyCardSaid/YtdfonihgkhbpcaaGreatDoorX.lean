/- Part of many_said. -/
import Derived.Test.YtdfonihgkhbpcaaGreatDoorRows
import Derived.Deep.DeepHandedRow
import Derived.Test.YtdfonihgkhbpcaaGreatDoorM6
set_option maxRecDepth 100000
set_option maxHeartbeats 8000000
namespace Go.Proofs.YtdfonihgkhbpcaaGreatDoor
open Go Go.ChangeShapes Go.WideShapes Go.ChangeAt Go.RowKit
theorem laidOut:laidOutB Tryz.prog=true:=by kernel_rfl
theorem aHH:Tryz.prog.closure 3=[3,4,7,5,11,24,49,103,104,50,105,106,107,108,149,192,236,265,266,150,193,237,194,195,120,162,202,241,242,222,269,270,243,244,271,272,287,288,238,196,109,110,151,152,67,153,68,122,169,123,111,154,12,25,51,112,115,30,26,52,60,29,54,53,55,27,56,57,59,113,155,58,114,156,198,240,268,197,285,286,292,293,294,295,296,297,298,299,239,161,267,157,158,199,159,61,116,200,160,201,28,13,6,14,15,32,23,48,62,117,102,148,31,33,64,63,118,119,65,66,121,163,164,203,205,204,165,166,167,168,34,35,69,124,70,71,125,126,127,72,128,129,130,16,17,36,74,73,131,75,132,170,206,207,245,208,246,273,289,274,275,276,290,133,171,134,172,135,173,209,174,42,92,91,37,22,47,100,101,76,136,175,210,247,277,248,278,211,78,77,137,79,138,18,38,39,81,82,80,139,85,142,84,140,176,141,178,221,177,212,218,144,213,249,214,250,251,215,252,253,279,216,217,219,220,83,86,40,88,89,87,143,179,180,223,254,41,90,19,43,93,94,145,182,181,146,183,225,226,224,255,184,185,227,228,257,280,291,256,44,147,186,229,230,258,259,281,283,282,234,263,262,260,187,232,231,261,188,233,189,190,235,264,284,191,8,9,20,21,45,46,95,96,97,98,99,10]:=by kernel_rfl
theorem un:Tryz.prog.unfollowed 3=true:=by unfold Program.unfollowed;rw[aHH];kernel_rfl
theorem aoe:(Rows.checkManyRow.inPlace==Tryz.prog.inPlace 3)=true:=by unfold Program.inPlace;rw[aHH];kernel_rfl
theorem aof:(Rows.checkManyRow.unfollowed==Tryz.prog.unfollowed 3)=true:=by rw[un];rfl
theorem aog:(Rows.checkManyRow.recurses==Tryz.prog.recurses 3)=true:=by unfold Program.recurses;rw[un];rfl
theorem aoh:(Rows.checkManyRow.named==Tryz.prog.varsNamed 3)=true:=by unfold Program.varsNamed;rw[aHH];kernel_rfl
theorem aoi:mapsRowed Tryz.prog=true:=by kernel_rfl
theorem aoj:joinedFacts Tryz.prog 3 Tryz.f3 (OpenSpec.ofChange Rows.checkManySpec).bare Rows.checkManyRow=true:=by
 simp only[joinedFacts,Bool.and_eq_true];and_intros;all_goals first
  |with_reducible exact aoe
  |with_reducible exact aof
  |with_reducible exact aog
  |with_reducible exact aoh
  |with_reducible exact aoi
  |with_reducible exact laidOut
  |kernel_rfl
theorem aok:Rows.checkManyRow.wfByText (OpenSpec.ofChange Rows.checkManySpec)=true:=by kernel_rfl
theorem aol:Tryz.pinned.checked.prog.mainIs=some (true,("923579272369a1449e17263bcae1ad648ad33ade808864273f13ed462897663c").toList):=by kernel_rfl
theorem T5:(Tryz.prog.funcs.any Func.goes)=false:=by kernel_rfl
theorem aom:false=Rows.checkManyRow.goesBy Tryz.pinned.checked.prog:=aG.amB _ _ rfl (aG.amC _ T5)
end Go.Proofs.YtdfonihgkhbpcaaGreatDoor
