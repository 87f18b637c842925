/- Closed facts of DbNil's card. -/
import Derived.Test.YtagljlpbfeeicaaGreatDoorCards
import Derived.SevenTiedAt
namespace Go.Proofs.YtagljlpbfeeicaaGreatDoor
open Go
set_option maxRecDepth 1000000
theorem card1 : Rows.dbNilRow.wfByText (OpenSpec.ofChange Rows.dbNilSpec) = true := by kernel_rfl
theorem card2 : Tryz.prog.mainIs = some (true, "ba2a95e7b48951dcfe4137e948fdd90754f487f837582372654dbe43774fb515".toList) := by kernel_rfl
theorem card3 : Tryz.prog.funcNamed Rows.dbNilRow.func = some 14 := by kernel_rfl
theorem card4 : true = Tryz.prog.looks [] := by kernel_rfl
theorem card5 : false = Rows.dbNilRow.goesBy Tryz.prog := by kernel_rfl
theorem card6 : ([38, 2, 2].all fun u => !Tryz.prog.wantsStandIn u) = true := by kernel_rfl
end Go.Proofs.YtagljlpbfeeicaaGreatDoor
