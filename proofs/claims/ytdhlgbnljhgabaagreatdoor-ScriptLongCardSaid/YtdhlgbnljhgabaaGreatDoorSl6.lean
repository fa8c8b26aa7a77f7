/- Proved: florinlaw26.ScriptLong returns true for every input (the listed package-level variables hold what the program's text lays; no other condition). Part 12 of 13. -/
import Derived.Test.YtdhlgbnljhgabaaGreatDoorSl5
/- ScriptLong: the card. -/
namespace Go.Proofs.YtdhlgbnljhgabaaGreatDoor
open Go.ChangeShapes Go.WideShapes Go.ChangeAt Go.RowKit
set_option maxRecDepth 1000000
theorem byText : Rows.scriptLongRow.wfByText (OpenSpec.ofChange Rows.scriptLongSpec) = true := by kernel_rfl
theorem mainIs : Tryz.pinned.checked.prog.mainIs = some (true, "999231993caffa8ae1e37850c171d4cefee4f713586067182a22286386069fb7".toList) := by kernel_rfl
theorem looks : true = Tryz.prog.looks [] := by kernel_rfl
theorem standIn : Tryz.prog.wantsStandIn 3 = false := by kernel_rfl
end Go.Proofs.YtdhlgbnljhgabaaGreatDoor
