/- Part of graphs_said. -/
import Derived.Test.YtmgpekpnidjfoaaGreatDoorRows
import Derived.Deep.DeepHandedRow
import Derived.Test.YtmgpekpnidjfoaaGreatDoorM6
set_option maxRecDepth 100000
set_option maxHeartbeats 8000000
namespace Go.Proofs.YtmgpekpnidjfoaaGreatDoor
open Go Go.ChangeShapes Go.WideShapes Go.ChangeAt Go.RowKit
theorem laidOut:laidOutB Tryz.prog=true:=by kernel_rfl
theorem dH:Tryz.prog.closure 4=[4,5,6,7,25,52,90,147,148,91,149,150,151,152,184,219,260,286,287,185,220,261,221,222,106,161,195,229,230,247,265,266,231,232,267,268,290,291,262,223,153,154,186,187,64,188,65,108,168,109,39,73,26,53,92,155,158,58,54,93,101,57,95,94,96,55,97,98,100,156,189,99,157,190,225,264,289,224,300,301,303,304,305,306,307,308,309,310,263,160,288,191,192,226,193,102,159,227,194,228,56,27,24,47,8,29,46,82,59,103,130,172,28,30,61,60,104,105,62,63,107,162,163,196,198,197,164,165,166,167,31,32,66,110,67,68,111,112,113,69,114,115,116,48,49,83,132,131,173,20,38,72,119,120,170,121,171,200,233,201,202,203,234,40,74,41,75,42,76,122,77,88,144,143,84,45,81,128,129,133,174,204,235,269,292,270,293,236,135,134,175,136,176,50,85,86,138,33,137,177,141,180,140,178,205,179,207,246,206,237,243,71,238,271,239,272,273,240,274,275,294,241,242,244,245,139,142,17,36,37,35,70,117,118,169,199,87,34,51,89,145,146,181,209,208,182,210,249,250,248,276,211,212,251,252,278,295,302,277,78,183,213,253,254,279,280,296,298,297,258,284,283,281,214,256,255,282,215,257,216,217,259,285,299,218,21,22,43,44,79,80,123,124,125,126,127,23,11,12,13,14,15,16,18,19]:=by kernel_rfl
theorem un:Tryz.prog.unfollowed 4=true:=by unfold Program.unfollowed;rw[dH];kernel_rfl
theorem amW:(Rows.checkGraphsRow.inPlace==Tryz.prog.inPlace 4)=true:=by unfold Program.inPlace;rw[dH];kernel_rfl
theorem amX:(Rows.checkGraphsRow.unfollowed==Tryz.prog.unfollowed 4)=true:=by rw[un];rfl
theorem amY:(Rows.checkGraphsRow.recurses==Tryz.prog.recurses 4)=true:=by unfold Program.recurses;rw[un];rfl
theorem amZ:(Rows.checkGraphsRow.named==Tryz.prog.varsNamed 4)=true:=by unfold Program.varsNamed;rw[dH];kernel_rfl
theorem am0:mapsRowed Tryz.prog=true:=by kernel_rfl
theorem am1:joinedFacts Tryz.prog 4 Tryz.f4 (OpenSpec.ofChange Rows.checkGraphsSpec).bare Rows.checkGraphsRow=true:=by
 simp only[joinedFacts,Bool.and_eq_true];and_intros;all_goals first
  |with_reducible exact amW
  |with_reducible exact amX
  |with_reducible exact amY
  |with_reducible exact amZ
  |with_reducible exact am0
  |with_reducible exact laidOut
  |kernel_rfl
theorem am2:Rows.checkGraphsRow.wfByText (OpenSpec.ofChange Rows.checkGraphsSpec)=true:=by kernel_rfl
theorem am3:Tryz.pinned.checked.prog.mainIs=some (true,("d274a2e1c2a3d233b0775b14c0e5eacb7a49f02b10a8b40e21fe30def18106b9").toList):=by kernel_rfl
theorem SY:(Tryz.prog.funcs.any Func.goes)=false:=by kernel_rfl
theorem am4:false=Rows.checkGraphsRow.goesBy Tryz.pinned.checked.prog:=aH.ak9 _ _ rfl (aH.ak' _ SY)
end Go.Proofs.YtmgpekpnidjfoaaGreatDoor
