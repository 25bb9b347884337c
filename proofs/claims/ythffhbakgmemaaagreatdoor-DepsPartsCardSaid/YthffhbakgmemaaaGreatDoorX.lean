/- Part of parts_said. -/
import Derived.Test.YthffhbakgmemaaaGreatDoorRows
import Derived.Deep.DeepHandedRow
import Derived.Test.YthffhbakgmemaaaGreatDoorM6
set_option maxRecDepth 100000
set_option maxHeartbeats 8000000
namespace Go.Proofs.YthffhbakgmemaaaGreatDoor
open Go Go.ChangeShapes Go.WideShapes Go.ChangeAt Go.RowKit
theorem laidOut:laidOutB Tryz.prog=true:=by kernel_rfl
theorem cl:Tryz.prog.closure 4=[4,5,19,45,61,88,116,163,164,117,165,166,167,168,208,252,294,319,320,209,253,295,254,255,181,222,263,299,300,87,323,324,301,302,325,326,339,340,296,256,169,170,210,211,135,212,136,183,229,184,171,213,62,89,118,172,175,94,90,119,127,93,121,120,122,91,123,124,126,173,214,125,174,215,258,298,322,257,337,338,344,345,346,347,348,349,350,351,297,220,321,216,217,259,218,128,176,260,219,261,92,63,46,64,65,96,131,180,129,177,221,262,95,97,132,130,178,179,133,134,182,223,224,264,266,265,225,226,227,228,98,99,137,185,138,139,186,187,188,140,189,190,191,66,67,100,142,141,192,143,193,230,267,268,303,269,304,327,341,328,329,330,342,194,231,195,232,196,233,270,234,27,54,53,101,144,197,235,236,145,159,206,250,292,317,293,318,251,147,146,198,148,199,68,102,103,150,151,149,55,154,202,153,200,237,201,58,86,238,271,277,59,272,305,273,112,113,274,306,307,331,275,276,278,279,152,155,24,49,40,48,72,109,110,161,207,104,156,69,105,157,158,203,240,239,204,241,281,282,280,308,242,243,283,284,309,332,343,39,50,205,244,285,286,310,311,333,335,334,290,315,314,312,245,288,287,313,246,289,247,248,291,316,336,249,20,8,25,26,51,52,73,74,75,76,77,21,6,22,47,43,28,60,70,71,106,107,108,29,160,31,30,13,35,36,17,34,56,38,41,37,57,78,79,111,80,81,114,115,162,82,83,84,85,42,7,23,12,33,10,15,9,14,16,18,44]:=by kernel_rfl
theorem un:Tryz.prog.unfollowed 4=true:=by unfold Program.unfollowed;rw[cl];kernel_rfl
theorem aoe:(Rows.depsPartsRow.inPlace==Tryz.prog.inPlace 4)=true:=by unfold Program.inPlace;rw[cl];kernel_rfl
theorem aof:(Rows.depsPartsRow.unfollowed==Tryz.prog.unfollowed 4)=true:=by rw[un];rfl
theorem aog:(Rows.depsPartsRow.recurses==Tryz.prog.recurses 4)=true:=by unfold Program.recurses;rw[un];rfl
theorem aoh:(Rows.depsPartsRow.named==Tryz.prog.varsNamed 4)=true:=by unfold Program.varsNamed;rw[cl];kernel_rfl
theorem aoi:mapsRowed Tryz.prog=true:=by kernel_rfl
theorem aoj:joinedFacts Tryz.prog 4 Tryz.f4 (OpenSpec.ofChange Rows.depsPartsSpec).bare Rows.depsPartsRow=true:=by
 simp only[joinedFacts,Bool.and_eq_true];and_intros;all_goals first
  |with_reducible exact aoe
  |with_reducible exact aof
  |with_reducible exact aog
  |with_reducible exact aoh
  |with_reducible exact aoi
  |with_reducible exact laidOut
  |kernel_rfl
theorem aok:Rows.depsPartsRow.wfByText (OpenSpec.ofChange Rows.depsPartsSpec)=true:=by kernel_rfl
theorem aol:Tryz.pinned.checked.prog.mainIs=some (true,("7da1767687119485572d9fc920a8409517d0c09052da95676706462585dc855f").toList):=by kernel_rfl
theorem T5:(Tryz.prog.funcs.any Func.goes)=false:=by kernel_rfl
theorem aom:false=Rows.depsPartsRow.goesBy Tryz.pinned.checked.prog:=aG.amB _ _ rfl (aG.amC _ T5)
end Go.Proofs.YthffhbakgmemaaaGreatDoor
