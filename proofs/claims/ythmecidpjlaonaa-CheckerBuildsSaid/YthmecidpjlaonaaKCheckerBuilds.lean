/-
  The closed facts of the row of checkerBuilds, one by one. No condition.
-/
import Derived.Test.YthmecidpjlaonaaFactA
import Derived.Test.YthmecidpjlaonaaFactB
import Derived.Test.YthmecidpjlaonaaFactC
import Derived.Test.YthmecidpjlaonaaFactD
namespace Go.Proofs.Ythmecidpjlaonaa.checkerBuilds
theorem j1 : (Rows.checkerBuildsRow.wf (OpenSpec.ofChange Rows.checkerBuildsSpec)) = true := by kernel_rfl
theorem j2 : (laidOutB Try.prog) = true := fact2
theorem j3 : (mapsRowed Try.prog) = true := fact3
theorem j4 : (Try.f3.params.all (Try.prog.readableRec ·)) = true := by kernel_rfl
theorem j5 : (namedTie Try.prog Rows.checkerBuildsRow.named Rows.checkerBuildsSpec.vars) = true := by kernel_rfl
theorem j6 : ((Rows.checkerBuildsRow.stops == [])) = true := by kernel_rfl
theorem j7 : ((Try.prog.stops == [])) = true := by kernel_rfl
theorem j8 : ((Rows.checkerBuildsRow.knobs == [])) = true := by kernel_rfl
theorem j9 : ((Try.prog.stopKnobs == [])) = true := by kernel_rfl
theorem j10 : ((Rows.checkerBuildsRow.inPlace == Try.prog.inPlace 3)) = true := by kernel_rfl
theorem j11 : ((Rows.checkerBuildsRow.unfollowed == Try.prog.unfollowed 3)) = true := by kernel_rfl
theorem j12 : ((Rows.checkerBuildsRow.recurses == Try.prog.recurses 3)) = true := by kernel_rfl
theorem j13 : ((Rows.checkerBuildsRow.named == Try.prog.varsNamed 3)) = true := by kernel_rfl
theorem j14 : ((Rows.checkerBuildsRow.maps == (Try.f3.params.toList ++ Rows.checkerBuildsSpec.plain.varTypes Try.prog).any (Try.prog.mapsRec ·))) = true := by kernel_rfl
theorem j15 : ((Rows.checkerBuildsRow.ifaces == (Try.f3.params.toList ++ Rows.checkerBuildsSpec.plain.varTypes Try.prog).any (Try.prog.ifacesRec ·))) = true := by kernel_rfl
theorem j16 : ((Rows.checkerBuildsRow.mapsOut == Try.prog.mapsAmong Try.f3.resultTypes.toList)) = true := by kernel_rfl
theorem j17 : ((Rows.checkerBuildsRow.loops == (Try.f3.params.toList ++ Rows.checkerBuildsSpec.plain.varTypes Try.prog).any (Try.prog.loopsFrom ·))) = true := by kernel_rfl
theorem j18 : ((Rows.checkerBuildsRow.wideKeys == (Try.f3.params.toList ++ Rows.checkerBuildsSpec.plain.varTypes Try.prog ++ Try.f3.resultTypes.toList).any (Try.prog.wideKeysFrom ·))) = true := by kernel_rfl
theorem j19 : (Rows.checkerBuildsSpec.vars.all (Try.prog.varReadable ·)) = true := by kernel_rfl
theorem j20 : (Try.f3.resultTypes.all (fun t => Try.prog.readableRec t && decide (t < Try.prog.types.size))) = true := by kernel_rfl
theorem j21 : ((Rows.checkerBuildsRow.ifacesOut == Try.f3.resultTypes.toList.any (Try.prog.ifacesRec ·))) = true := by kernel_rfl
theorem j22 : ((Rows.checkerBuildsRow.loopsOut == Try.f3.resultTypes.toList.any (Try.prog.loopsFrom ·))) = true := by kernel_rfl
theorem j23 : ((Rows.checkerBuildsRow.plainKeys == Try.prog.plainKeys)) = true := by kernel_rfl
theorem j24 : (Rows.checkerBuildsRow.shortTexts.isNone) = true := by kernel_rfl
theorem j25 : (Try.prog.stopsHeard) = true := fact25
theorem j26 : (Try.prog.mayEnter) = true := fact26
theorem j27 : ((Rows.checkerBuildsRow.lifted == Try.prog.liftsFinal)) = true := fact27
theorem j28 : ((Try.prog.make == some Rows.checkerBuildsRow.make)) = true := fact28
theorem j29 : ((Rows.checkerBuildsRow.kinds == (if Rows.checkerBuildsRow.domain.isEmpty then [] else Try.f3.params.toList.map fun t => match Try.prog.underlying t with | some (.int k) => some k | _ => none))) = true := by kernel_rfl
theorem j30 : ((Rows.checkerBuildsRow.pinned == Rows.checkerBuildsRow.pinnedBy)) = true := by kernel_rfl
theorem j31 : ((Rows.checkerBuildsRow.veiled == (Try.f3.params.toList ++ Rows.checkerBuildsSpec.plain.varTypes Try.prog ++ Try.f3.resultTypes.toList).any (Try.prog.veiledRec ·))) = true := by kernel_rfl
theorem j32 : (Rows.checkerBuildsRow.veiledFits Try.prog Try.f3.params.toList (Try.f3.params.toList ++ Rows.checkerBuildsSpec.plain.varTypes Try.prog ++ Try.f3.resultTypes.toList)) = true := by kernel_rfl
set_option maxRecDepth 100000 in
theorem closed : joinedFacts Try.prog 3 Try.f3 Rows.checkerBuildsSpec Rows.checkerBuildsRow = true := by
  unfold joinedFacts
  exact and_t (and_t (and_t (and_t (and_t (and_t (and_t (and_t (and_t (and_t (and_t (and_t (and_t (and_t (and_t (and_t (and_t (and_t (and_t (and_t (and_t (and_t (and_t (and_t (and_t (and_t (and_t (and_t (and_t (and_t (and_t (j1) j2) j3) j4) j5) j6) j7) j8) j9) j10) j11) j12) j13) j14) j15) j16) j17) j18) j19) j20) j21) j22) j23) j24) j25) j26) j27) j28) j29) j30) j31) j32
end Go.Proofs.Ythmecidpjlaonaa.checkerBuilds

