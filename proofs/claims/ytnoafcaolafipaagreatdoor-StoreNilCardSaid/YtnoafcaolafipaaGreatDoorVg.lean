/- Closed facts of StoreNil's card. -/
import Derived.Test.YtnoafcaolafipaaGreatDoorCards
import Derived.SevenTiedAt
import Derived.Test.YtnoafcaolafipaaGreatDoorRows
import Derived.Lay
import Derived.MakeChecks
import Derived.LaidMore
namespace Go.Proofs.YtnoafcaolafipaaGreatDoor
open Go
set_option maxRecDepth 1000000
theorem card1 : Rows.storeNilRow.wfByText (OpenSpec.ofChange Rows.storeNilSpec) = true := by kernel_rfl
theorem card2 : Tryz.prog.mainIs = some (true, "e7ca9327dc0beae2273969494b3366c249f5e060669387cae44fa6148e4c49a2".toList) := by kernel_rfl
theorem card3 : Tryz.prog.funcNamed Rows.storeNilRow.func = some 3 := by kernel_rfl
theorem card4 : true = Tryz.prog.looks [] := by kernel_rfl
theorem card5 : false = Rows.storeNilRow.goesBy Tryz.prog := by kernel_rfl
theorem card6 : ([9].all fun u => !Tryz.prog.wantsStandIn u) = true := by kernel_rfl
end Go.Proofs.YtnoafcaolafipaaGreatDoor

namespace Go.Proofs.YtnoafcaolafipaaGreatDoor
open Go
set_option maxRecDepth 1000000

/-- A start at which the listed variables read as they are listed. -/
theorem start_met (os : Os) (args : Array Value) : laidMetH Tryz.prog Rows.storeNilRow.laid ((World.laidAll Tryz.prog os Rows.storeNilRow.laid).forCall (fun _ _ => 0) ⟨#[], args, []⟩).memory := by
  rw [MakeChecks.laidMetH_plain _ _ _ (by kernel_rfl)]
  exact laidMet_laidAll args (by kernel_rfl) (by kernel_rfl)

theorem start_shaped (os : Os) : (World.laidAll Tryz.prog os Rows.storeNilRow.laid).Shaped Tryz.prog := World.shaped_of_ZipB (by kernel_rfl) (by kernel_rfl)
end Go.Proofs.YtnoafcaolafipaaGreatDoor
