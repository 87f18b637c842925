/- Closed facts of DbNil's row. -/
import Derived.Test.YtagljlpbfeeicaaGreatDoorRows
import Derived.JoinedOf
namespace Go.Proofs.YtagljlpbfeeicaaGreatDoor
open Go
set_option maxRecDepth 1000000
noncomputable abbrev P14 : Program := Tryz.prog
theorem fact0 : (Rows.dbNilRow.wf (OpenSpec.ofChange Rows.dbNilSpec)) = true := by kernel_rfl
theorem fact1 : (laidOutB Tryz.prog) = true := by kernel_rfl
theorem fact2 : (mapsRowed Tryz.prog) = true := by kernel_rfl
theorem fact3 : (Tryz.f14.params.all (Tryz.prog.readableRec ·)) = true := by kernel_rfl
theorem fact4 : (namedTie Tryz.prog Rows.dbNilRow.named Rows.dbNilSpec.vars) = true := by kernel_rfl
theorem fact5 : ((Rows.dbNilRow.stops == [])) = true := by kernel_rfl
theorem fact6 : ((Tryz.prog.stops == [])) = true := by kernel_rfl
theorem fact7 : ((Rows.dbNilRow.knobs == [])) = true := by kernel_rfl
theorem fact8 : ((Tryz.prog.stopKnobs == [])) = true := by kernel_rfl
theorem fact9 : ((Rows.dbNilRow.inPlace == Tryz.prog.inPlace 14)) = true := by kernel_rfl
theorem fact10 : ((Rows.dbNilRow.unfollowed == Tryz.prog.unfollowed 14)) = true := by kernel_rfl
theorem fact11 : ((Rows.dbNilRow.recurses == Tryz.prog.recurses 14)) = true := by kernel_rfl
theorem fact12 : ((Rows.dbNilRow.named == Tryz.prog.varsNamed 14)) = true := by kernel_rfl
theorem fact13 : ((Rows.dbNilRow.maps == (Tryz.f14.params.toList ++ Rows.dbNilSpec.plain.varTypes Tryz.prog).any (Tryz.prog.mapsRec ·))) = true := by kernel_rfl
theorem fact14 : ((Rows.dbNilRow.ifaces == (Tryz.f14.params.toList ++ Rows.dbNilSpec.plain.varTypes Tryz.prog).any (Tryz.prog.ifacesRec ·))) = true := by kernel_rfl
theorem fact15 : ((Rows.dbNilRow.mapsOut == Tryz.prog.mapsAmong Tryz.f14.resultTypes.toList)) = true := by kernel_rfl
theorem fact16 : ((Rows.dbNilRow.loops == (Tryz.f14.params.toList ++ Rows.dbNilSpec.plain.varTypes Tryz.prog).any (Tryz.prog.loopsFrom ·))) = true := by kernel_rfl
theorem fact17 : ((Rows.dbNilRow.wideKeys == (Tryz.f14.params.toList ++ Rows.dbNilSpec.plain.varTypes Tryz.prog ++ Tryz.f14.resultTypes.toList).any (Tryz.prog.wideKeysFrom ·))) = true := by kernel_rfl
theorem fact18 : (Rows.dbNilSpec.vars.all (Tryz.prog.varReadable ·)) = true := by kernel_rfl
theorem fact19 : (Tryz.f14.resultTypes.all (fun t => Tryz.prog.readableRec t && decide (t < Tryz.prog.types.size))) = true := by kernel_rfl
theorem fact20 : ((Rows.dbNilRow.ifacesOut == Tryz.f14.resultTypes.toList.any (Tryz.prog.ifacesRec ·))) = true := by kernel_rfl
theorem fact21 : ((Rows.dbNilRow.loopsOut == Tryz.f14.resultTypes.toList.any (Tryz.prog.loopsFrom ·))) = true := by kernel_rfl
theorem fact22 : ((Rows.dbNilRow.plainKeys == Tryz.prog.plainKeys)) = true := by kernel_rfl
theorem fact23 : (Rows.dbNilRow.shortTexts.isNone) = true := by kernel_rfl
theorem fact24 : (Tryz.prog.stopsHeard) = true := by kernel_rfl
theorem fact25 : (Tryz.prog.mayEnter) = true := by kernel_rfl
theorem fact26 : ((Rows.dbNilRow.lifted == Tryz.prog.liftsFinal)) = true := by kernel_rfl
theorem fact27 : ((Tryz.prog.make == some Rows.dbNilRow.make)) = true := by kernel_rfl
theorem fact28 : ((Rows.dbNilRow.kinds == (if Rows.dbNilRow.domain.isEmpty then [] else Tryz.f14.params.toList.map fun t => match Tryz.prog.underlying t with | some (.int k) => some k | _ => none))) = true := by kernel_rfl
theorem fact29 : ((Rows.dbNilRow.pinned == Rows.dbNilRow.pinnedBy)) = true := by kernel_rfl
theorem fact30 : ((Rows.dbNilRow.veiled == (Tryz.f14.params.toList ++ Rows.dbNilSpec.plain.varTypes Tryz.prog ++ Tryz.f14.resultTypes.toList).any (Tryz.prog.veiledRec ·))) = true := by kernel_rfl
theorem fact31 : (Rows.dbNilRow.veiledFits Tryz.prog Tryz.f14.params.toList (Tryz.f14.params.toList ++ Rows.dbNilSpec.plain.varTypes Tryz.prog ++ Tryz.f14.resultTypes.toList)) = true := by kernel_rfl
theorem facts : joinedFacts Tryz.prog 14 Tryz.f14 Rows.dbNilSpec Rows.dbNilRow = true := by
  simp only [joinedFacts, Bool.and_eq_true]
  exact ⟨⟨⟨⟨⟨⟨⟨⟨⟨⟨⟨⟨⟨⟨⟨⟨⟨⟨⟨⟨⟨⟨⟨⟨⟨⟨⟨⟨⟨⟨⟨fact0, fact1⟩, fact2⟩, fact3⟩, fact4⟩, fact5⟩, fact6⟩, fact7⟩, fact8⟩, fact9⟩, fact10⟩, fact11⟩, fact12⟩, fact13⟩, fact14⟩, fact15⟩, fact16⟩, fact17⟩, fact18⟩, fact19⟩, fact20⟩, fact21⟩, fact22⟩, fact23⟩, fact24⟩, fact25⟩, fact26⟩, fact27⟩, fact28⟩, fact29⟩, fact30⟩, fact31⟩
end Go.Proofs.YtagljlpbfeeicaaGreatDoor
