/-
  The closed facts of the row of checkerExhibits, one by one. No condition.
-/
import Derived.Test.YthmecidpjlaonaaFactA
import Derived.Test.YthmecidpjlaonaaFactB
import Derived.Test.YthmecidpjlaonaaFactC
import Derived.Test.YthmecidpjlaonaaFactD
namespace Go.Proofs.Ythmecidpjlaonaa.checkerExhibits
theorem j1 : (Rows.checkerExhibitsRow.wf (OpenSpec.ofChange Rows.checkerExhibitsSpec)) = true := by kernel_rfl
theorem j2 : (laidOutB Try.prog) = true := fact2
theorem j3 : (mapsRowed Try.prog) = true := fact3
theorem j4 : (Try.f5.params.all (Try.prog.readableRec ·)) = true := by kernel_rfl
theorem j5 : (namedTie Try.prog Rows.checkerExhibitsRow.named Rows.checkerExhibitsSpec.vars) = true := by kernel_rfl
theorem j6 : ((Rows.checkerExhibitsRow.stops == [])) = true := by kernel_rfl
theorem j7 : ((Try.prog.stops == [])) = true := by kernel_rfl
theorem j8 : ((Rows.checkerExhibitsRow.knobs == [])) = true := by kernel_rfl
theorem j9 : ((Try.prog.stopKnobs == [])) = true := by kernel_rfl
theorem j10 : ((Rows.checkerExhibitsRow.inPlace == Try.prog.inPlace 5)) = true := by kernel_rfl
theorem j11 : ((Rows.checkerExhibitsRow.unfollowed == Try.prog.unfollowed 5)) = true := by kernel_rfl
theorem j12 : ((Rows.checkerExhibitsRow.recurses == Try.prog.recurses 5)) = true := by kernel_rfl
theorem j13 : ((Rows.checkerExhibitsRow.named == Try.prog.varsNamed 5)) = true := by kernel_rfl
theorem j14 : ((Rows.checkerExhibitsRow.maps == (Try.f5.params.toList ++ Rows.checkerExhibitsSpec.plain.varTypes Try.prog).any (Try.prog.mapsRec ·))) = true := by kernel_rfl
theorem j15 : ((Rows.checkerExhibitsRow.ifaces == (Try.f5.params.toList ++ Rows.checkerExhibitsSpec.plain.varTypes Try.prog).any (Try.prog.ifacesRec ·))) = true := by kernel_rfl
theorem j16 : ((Rows.checkerExhibitsRow.mapsOut == Try.prog.mapsAmong Try.f5.resultTypes.toList)) = true := by kernel_rfl
theorem j17 : ((Rows.checkerExhibitsRow.loops == (Try.f5.params.toList ++ Rows.checkerExhibitsSpec.plain.varTypes Try.prog).any (Try.prog.loopsFrom ·))) = true := by kernel_rfl
theorem j18 : ((Rows.checkerExhibitsRow.wideKeys == (Try.f5.params.toList ++ Rows.checkerExhibitsSpec.plain.varTypes Try.prog ++ Try.f5.resultTypes.toList).any (Try.prog.wideKeysFrom ·))) = true := by kernel_rfl
theorem j19 : (Rows.checkerExhibitsSpec.vars.all (Try.prog.varReadable ·)) = true := by kernel_rfl
theorem j20 : (Try.f5.resultTypes.all (fun t => Try.prog.readableRec t && decide (t < Try.prog.types.size))) = true := by kernel_rfl
theorem j21 : ((Rows.checkerExhibitsRow.ifacesOut == Try.f5.resultTypes.toList.any (Try.prog.ifacesRec ·))) = true := by kernel_rfl
theorem j22 : ((Rows.checkerExhibitsRow.loopsOut == Try.f5.resultTypes.toList.any (Try.prog.loopsFrom ·))) = true := by kernel_rfl
theorem j23 : ((Rows.checkerExhibitsRow.plainKeys == Try.prog.plainKeys)) = true := by kernel_rfl
theorem j24 : (Rows.checkerExhibitsRow.shortTexts.isNone) = true := by kernel_rfl
theorem j25 : (Try.prog.stopsHeard) = true := fact25
theorem j26 : (Try.prog.mayEnter) = true := fact26
theorem j27 : ((Rows.checkerExhibitsRow.lifted == Try.prog.liftsFinal)) = true := fact27
theorem j28 : ((Try.prog.make == some Rows.checkerExhibitsRow.make)) = true := fact28
theorem j29 : ((Rows.checkerExhibitsRow.kinds == (if Rows.checkerExhibitsRow.domain.isEmpty then [] else Try.f5.params.toList.map fun t => match Try.prog.underlying t with | some (.int k) => some k | _ => none))) = true := by kernel_rfl
theorem j30 : ((Rows.checkerExhibitsRow.pinned == Rows.checkerExhibitsRow.pinnedBy)) = true := by kernel_rfl
theorem j31 : ((Rows.checkerExhibitsRow.veiled == (Try.f5.params.toList ++ Rows.checkerExhibitsSpec.plain.varTypes Try.prog ++ Try.f5.resultTypes.toList).any (Try.prog.veiledRec ·))) = true := by kernel_rfl
theorem j32 : (Rows.checkerExhibitsRow.veiledFits Try.prog Try.f5.params.toList (Try.f5.params.toList ++ Rows.checkerExhibitsSpec.plain.varTypes Try.prog ++ Try.f5.resultTypes.toList)) = true := by kernel_rfl
set_option maxRecDepth 100000 in
theorem closed : joinedFacts Try.prog 5 Try.f5 Rows.checkerExhibitsSpec Rows.checkerExhibitsRow = true := by
  unfold joinedFacts
  exact and_t (and_t (and_t (and_t (and_t (and_t (and_t (and_t (and_t (and_t (and_t (and_t (and_t (and_t (and_t (and_t (and_t (and_t (and_t (and_t (and_t (and_t (and_t (and_t (and_t (and_t (and_t (and_t (and_t (and_t (and_t (j1) j2) j3) j4) j5) j6) j7) j8) j9) j10) j11) j12) j13) j14) j15) j16) j17) j18) j19) j20) j21) j22) j23) j24) j25) j26) j27) j28) j29) j30) j31) j32
end Go.Proofs.Ythmecidpjlaonaa.checkerExhibits

