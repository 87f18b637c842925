/-
  DERIVED. GIVEN WITH THE SEED: THE CARDS: each row of YtagljlpbfeeicaaGreatDoorRows.lean that lists a variable, with what it lists TIED to the program's text (the seventh form; the later family's looks); each row that meets fmt, with fmt's text TOLD by the authors' own Lean function (tested against real Go, not proved from fmt's source: count such statements apart). THE CARD IS WHAT COUNTS. Prove the row's statement (the work); the ties are given (YtagljlpbfeeicaaGreatDoorTie.lean); close each card by the builder's one call (the guide's Derived/Test/ToyasCard.lean, 'card_holds'). Laid BY PROGRAM, IN A SANDBOX (cutbox-door.mjs). By AI agents, Wed Nov 11 2026. No macro, syntax, notation, axiom, sorry.
-/
import Derived.Test.YtagljlpbfeeicaaGreatDoorRows
import GoSem.ClaimSeven
namespace Go.Proofs.YtagljlpbfeeicaaGreatDoor
namespace Rows

/-- THE TIED CARD OF 'halyardlaw19.DbTables'. -/
def dbTablesCard : Claim7 := { stood := { row := dbTablesRow, standIns := [], harness := (true, "ba2a95e7b48951dcfe4137e948fdd90754f487f837582372654dbe43774fb515"), looks := true }, kinds := [], alts := [], laidByText := true, laidKinds := [.data, .data, .data, .sentinel, .sentinel], laidTests := true, laidLooks := .later }
def DbTablesCardSaid : Prop := Claim7.holds Tryz.pinned (.plain (OpenSpec.ofChange dbTablesSpec)) dbTablesCard

/-- THE TIED CARD OF 'halyardlaw19.DbEnds'. -/
def dbEndsCard : Claim7 := { stood := { row := dbEndsRow, standIns := [], harness := (true, "ba2a95e7b48951dcfe4137e948fdd90754f487f837582372654dbe43774fb515"), looks := true }, kinds := [], alts := [], laidByText := true, laidKinds := [.data, .data, .data, .sentinel, .sentinel], laidTests := true, laidLooks := .later }
def DbEndsCardSaid : Prop := Claim7.holds Tryz.pinned (.plain (OpenSpec.ofChange dbEndsSpec)) dbEndsCard

/-- THE TIED CARD OF 'halyardlaw19.DbRanges'. -/
def dbRangesCard : Claim7 := { stood := { row := dbRangesRow, standIns := [], harness := (true, "ba2a95e7b48951dcfe4137e948fdd90754f487f837582372654dbe43774fb515"), looks := true }, kinds := [], alts := [], laidByText := true, laidKinds := [.data, .data, .data, .sentinel, .sentinel], laidTests := true, laidLooks := .later }
def DbRangesCardSaid : Prop := Claim7.holds Tryz.pinned (.plain (OpenSpec.ofChange dbRangesSpec)) dbRangesCard

/-- THE TIED CARD OF 'halyardlaw19.DbFull'. -/
def dbFullCard : Claim7 := { stood := { row := dbFullRow, standIns := [], harness := (true, "ba2a95e7b48951dcfe4137e948fdd90754f487f837582372654dbe43774fb515"), looks := true }, kinds := [], alts := [], laidByText := true, laidKinds := [.data, .data, .data, .sentinel, .sentinel], laidTests := true, laidLooks := .later }
def DbFullCardSaid : Prop := Claim7.holds Tryz.pinned (.plain (OpenSpec.ofChange dbFullSpec)) dbFullCard

/-- THE TIED CARD OF 'halyardlaw19.DbWorks'. -/
def dbWorksCard : Claim7 := { stood := { row := dbWorksRow, standIns := [], harness := (true, "ba2a95e7b48951dcfe4137e948fdd90754f487f837582372654dbe43774fb515"), looks := true }, kinds := [], alts := [], laidByText := true, laidKinds := [.data, .data, .data, .sentinel, .sentinel], laidTests := true, laidLooks := .later }
def DbWorksCardSaid : Prop := Claim7.holds Tryz.pinned (.plain (OpenSpec.ofChange dbWorksSpec)) dbWorksCard

/-- THE TIED CARD OF 'halyardlaw19.DbHostile'. -/
def dbHostileCard : Claim7 := { stood := { row := dbHostileRow, standIns := [], harness := (true, "ba2a95e7b48951dcfe4137e948fdd90754f487f837582372654dbe43774fb515"), looks := true }, kinds := [], alts := [], laidByText := true, laidKinds := [.data, .data, .data, .sentinel, .sentinel], laidTests := true, laidLooks := .later }
def DbHostileCardSaid : Prop := Claim7.holds Tryz.pinned (.plain (OpenSpec.ofChange dbHostileSpec)) dbHostileCard

/-- THE TIED CARD OF 'halyardlaw19.DbAgain'. -/
def dbAgainCard : Claim7 := { stood := { row := dbAgainRow, standIns := [], harness := (true, "ba2a95e7b48951dcfe4137e948fdd90754f487f837582372654dbe43774fb515"), looks := true }, kinds := [], alts := [], laidByText := true, laidKinds := [.data, .data, .data, .sentinel, .sentinel], laidTests := true, laidLooks := .later }
def DbAgainCardSaid : Prop := Claim7.holds Tryz.pinned (.plain (OpenSpec.ofChange dbAgainSpec)) dbAgainCard

/-- THE TIED CARD OF 'halyardlaw19.DbPins'. -/
def dbPinsCard : Claim7 := { stood := { row := dbPinsRow, standIns := [], harness := (true, "ba2a95e7b48951dcfe4137e948fdd90754f487f837582372654dbe43774fb515"), looks := true }, kinds := [], alts := [], laidByText := true, laidKinds := [.data, .data, .data, .sentinel, .sentinel], laidTests := true, laidLooks := .later }
def DbPinsCardSaid : Prop := Claim7.holds Tryz.pinned (.plain (OpenSpec.ofChange dbPinsSpec)) dbPinsCard

/-- THE TIED CARD OF 'halyardlaw19.DbSettles'. -/
def dbSettlesCard : Claim7 := { stood := { row := dbSettlesRow, standIns := [], harness := (true, "ba2a95e7b48951dcfe4137e948fdd90754f487f837582372654dbe43774fb515"), looks := true }, kinds := [], alts := [], laidByText := true, laidKinds := [.data, .data, .data, .sentinel, .sentinel], laidTests := true, laidLooks := .later }
def DbSettlesCardSaid : Prop := Claim7.holds Tryz.pinned (.plain (OpenSpec.ofChange dbSettlesSpec)) dbSettlesCard

/-- THE TIED CARD OF 'halyardlaw19.DbCopies'. -/
def dbCopiesCard : Claim7 := { stood := { row := dbCopiesRow, standIns := [], harness := (true, "ba2a95e7b48951dcfe4137e948fdd90754f487f837582372654dbe43774fb515"), looks := true }, kinds := [], alts := [], laidByText := true, laidKinds := [.data, .data, .data, .sentinel, .sentinel], laidTests := true, laidLooks := .later }
def DbCopiesCardSaid : Prop := Claim7.holds Tryz.pinned (.plain (OpenSpec.ofChange dbCopiesSpec)) dbCopiesCard

/-- THE TIED CARD OF 'halyardlaw19.DbCrashes'. -/
def dbCrashesCard : Claim7 := { stood := { row := dbCrashesRow, standIns := [], harness := (true, "ba2a95e7b48951dcfe4137e948fdd90754f487f837582372654dbe43774fb515"), looks := true }, kinds := [], alts := [], laidByText := true, laidKinds := [.data, .data, .data, .sentinel, .sentinel], laidTests := true, laidLooks := .later }
def DbCrashesCardSaid : Prop := Claim7.holds Tryz.pinned (.plain (OpenSpec.ofChange dbCrashesSpec)) dbCrashesCard

/-- THE TIED CARD OF 'halyardlaw19.DbNil'. -/
def dbNilCard : Claim7 := { stood := { row := dbNilRow, standIns := [], harness := (true, "ba2a95e7b48951dcfe4137e948fdd90754f487f837582372654dbe43774fb515"), looks := true }, kinds := [], alts := [], laidByText := true, laidKinds := [.data, .data, .data, .sentinel, .sentinel], laidTests := true, laidLooks := .later }
def DbNilCardSaid : Prop := Claim7.holds Tryz.pinned (.plain (OpenSpec.ofChange dbNilSpec)) dbNilCard

/-- THE SECOND FORM's CARD OF 'halyardlaw19.DbTables'. -/
def dbTablesUptoCard : Claim7 := { stood := { row := dbTablesUptoRow, standIns := [], harness := (true, "ba2a95e7b48951dcfe4137e948fdd90754f487f837582372654dbe43774fb515"), looks := true }, kinds := [], alts := [], laidByText := true, laidKinds := [.data, .data, .data, .sentinel, .sentinel], laidTests := true, laidLooks := .later }
def DbTablesUptoCardSaid : Prop := Claim7.holds Tryz.pinned (.plain (OpenSpec.upto dbTablesSpec)) dbTablesUptoCard

/-- THE SECOND FORM's CARD OF 'halyardlaw19.DbEnds'. -/
def dbEndsUptoCard : Claim7 := { stood := { row := dbEndsUptoRow, standIns := [], harness := (true, "ba2a95e7b48951dcfe4137e948fdd90754f487f837582372654dbe43774fb515"), looks := true }, kinds := [], alts := [], laidByText := true, laidKinds := [.data, .data, .data, .sentinel, .sentinel], laidTests := true, laidLooks := .later }
def DbEndsUptoCardSaid : Prop := Claim7.holds Tryz.pinned (.plain (OpenSpec.upto dbEndsSpec)) dbEndsUptoCard

/-- THE SECOND FORM's CARD OF 'halyardlaw19.DbRanges'. -/
def dbRangesUptoCard : Claim7 := { stood := { row := dbRangesUptoRow, standIns := [], harness := (true, "ba2a95e7b48951dcfe4137e948fdd90754f487f837582372654dbe43774fb515"), looks := true }, kinds := [], alts := [], laidByText := true, laidKinds := [.data, .data, .data, .sentinel, .sentinel], laidTests := true, laidLooks := .later }
def DbRangesUptoCardSaid : Prop := Claim7.holds Tryz.pinned (.plain (OpenSpec.upto dbRangesSpec)) dbRangesUptoCard

/-- THE SECOND FORM's CARD OF 'halyardlaw19.DbFull'. -/
def dbFullUptoCard : Claim7 := { stood := { row := dbFullUptoRow, standIns := [], harness := (true, "ba2a95e7b48951dcfe4137e948fdd90754f487f837582372654dbe43774fb515"), looks := true }, kinds := [], alts := [], laidByText := true, laidKinds := [.data, .data, .data, .sentinel, .sentinel], laidTests := true, laidLooks := .later }
def DbFullUptoCardSaid : Prop := Claim7.holds Tryz.pinned (.plain (OpenSpec.upto dbFullSpec)) dbFullUptoCard

/-- THE SECOND FORM's CARD OF 'halyardlaw19.DbWorks'. -/
def dbWorksUptoCard : Claim7 := { stood := { row := dbWorksUptoRow, standIns := [], harness := (true, "ba2a95e7b48951dcfe4137e948fdd90754f487f837582372654dbe43774fb515"), looks := true }, kinds := [], alts := [], laidByText := true, laidKinds := [.data, .data, .data, .sentinel, .sentinel], laidTests := true, laidLooks := .later }
def DbWorksUptoCardSaid : Prop := Claim7.holds Tryz.pinned (.plain (OpenSpec.upto dbWorksSpec)) dbWorksUptoCard

/-- THE SECOND FORM's CARD OF 'halyardlaw19.DbHostile'. -/
def dbHostileUptoCard : Claim7 := { stood := { row := dbHostileUptoRow, standIns := [], harness := (true, "ba2a95e7b48951dcfe4137e948fdd90754f487f837582372654dbe43774fb515"), looks := true }, kinds := [], alts := [], laidByText := true, laidKinds := [.data, .data, .data, .sentinel, .sentinel], laidTests := true, laidLooks := .later }
def DbHostileUptoCardSaid : Prop := Claim7.holds Tryz.pinned (.plain (OpenSpec.upto dbHostileSpec)) dbHostileUptoCard

/-- THE SECOND FORM's CARD OF 'halyardlaw19.DbAgain'. -/
def dbAgainUptoCard : Claim7 := { stood := { row := dbAgainUptoRow, standIns := [], harness := (true, "ba2a95e7b48951dcfe4137e948fdd90754f487f837582372654dbe43774fb515"), looks := true }, kinds := [], alts := [], laidByText := true, laidKinds := [.data, .data, .data, .sentinel, .sentinel], laidTests := true, laidLooks := .later }
def DbAgainUptoCardSaid : Prop := Claim7.holds Tryz.pinned (.plain (OpenSpec.upto dbAgainSpec)) dbAgainUptoCard

/-- THE SECOND FORM's CARD OF 'halyardlaw19.DbPins'. -/
def dbPinsUptoCard : Claim7 := { stood := { row := dbPinsUptoRow, standIns := [], harness := (true, "ba2a95e7b48951dcfe4137e948fdd90754f487f837582372654dbe43774fb515"), looks := true }, kinds := [], alts := [], laidByText := true, laidKinds := [.data, .data, .data, .sentinel, .sentinel], laidTests := true, laidLooks := .later }
def DbPinsUptoCardSaid : Prop := Claim7.holds Tryz.pinned (.plain (OpenSpec.upto dbPinsSpec)) dbPinsUptoCard

/-- THE SECOND FORM's CARD OF 'halyardlaw19.DbSettles'. -/
def dbSettlesUptoCard : Claim7 := { stood := { row := dbSettlesUptoRow, standIns := [], harness := (true, "ba2a95e7b48951dcfe4137e948fdd90754f487f837582372654dbe43774fb515"), looks := true }, kinds := [], alts := [], laidByText := true, laidKinds := [.data, .data, .data, .sentinel, .sentinel], laidTests := true, laidLooks := .later }
def DbSettlesUptoCardSaid : Prop := Claim7.holds Tryz.pinned (.plain (OpenSpec.upto dbSettlesSpec)) dbSettlesUptoCard

/-- THE SECOND FORM's CARD OF 'halyardlaw19.DbCopies'. -/
def dbCopiesUptoCard : Claim7 := { stood := { row := dbCopiesUptoRow, standIns := [], harness := (true, "ba2a95e7b48951dcfe4137e948fdd90754f487f837582372654dbe43774fb515"), looks := true }, kinds := [], alts := [], laidByText := true, laidKinds := [.data, .data, .data, .sentinel, .sentinel], laidTests := true, laidLooks := .later }
def DbCopiesUptoCardSaid : Prop := Claim7.holds Tryz.pinned (.plain (OpenSpec.upto dbCopiesSpec)) dbCopiesUptoCard

/-- THE SECOND FORM's CARD OF 'halyardlaw19.DbCrashes'. -/
def dbCrashesUptoCard : Claim7 := { stood := { row := dbCrashesUptoRow, standIns := [], harness := (true, "ba2a95e7b48951dcfe4137e948fdd90754f487f837582372654dbe43774fb515"), looks := true }, kinds := [], alts := [], laidByText := true, laidKinds := [.data, .data, .data, .sentinel, .sentinel], laidTests := true, laidLooks := .later }
def DbCrashesUptoCardSaid : Prop := Claim7.holds Tryz.pinned (.plain (OpenSpec.upto dbCrashesSpec)) dbCrashesUptoCard

/-- THE SECOND FORM's CARD OF 'halyardlaw19.DbNil'. -/
def dbNilUptoCard : Claim7 := { stood := { row := dbNilUptoRow, standIns := [], harness := (true, "ba2a95e7b48951dcfe4137e948fdd90754f487f837582372654dbe43774fb515"), looks := true }, kinds := [], alts := [], laidByText := true, laidKinds := [.data, .data, .data, .sentinel, .sentinel], laidTests := true, laidLooks := .later }
def DbNilUptoCardSaid : Prop := Claim7.holds Tryz.pinned (.plain (OpenSpec.upto dbNilSpec)) dbNilUptoCard
end Rows
end Go.Proofs.YtagljlpbfeeicaaGreatDoor
