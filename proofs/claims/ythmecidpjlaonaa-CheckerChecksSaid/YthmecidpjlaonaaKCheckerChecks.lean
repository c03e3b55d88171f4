/-
  The closed facts of the row of checkerChecks, one by one. No condition.
-/
import Derived.Test.YthmecidpjlaonaaFactA
import Derived.Test.YthmecidpjlaonaaFactB
import Derived.Test.YthmecidpjlaonaaFactC
import Derived.Test.YthmecidpjlaonaaFactD
namespace Go.Proofs.Ythmecidpjlaonaa.checkerChecks
theorem j1 : (Rows.checkerChecksRow.wf (OpenSpec.ofChange Rows.checkerChecksSpec)) = true := by kernel_rfl
theorem j2 : (laidOutB Try.prog) = true := fact2
theorem j3 : (mapsRowed Try.prog) = true := fact3
theorem j4 : (Try.f4.params.all (Try.prog.readableRec ·)) = true := by kernel_rfl
theorem j5 : (namedTie Try.prog Rows.checkerChecksRow.named Rows.checkerChecksSpec.vars) = true := by kernel_rfl
theorem j6 : ((Rows.checkerChecksRow.stops == [])) = true := by kernel_rfl
theorem j7 : ((Try.prog.stops == [])) = true := by kernel_rfl
theorem j8 : ((Rows.checkerChecksRow.knobs == [])) = true := by kernel_rfl
theorem j9 : ((Try.prog.stopKnobs == [])) = true := by kernel_rfl
theorem j10 : ((Rows.checkerChecksRow.inPlace == Try.prog.inPlace 4)) = true := by kernel_rfl
theorem j11 : ((Rows.checkerChecksRow.unfollowed == Try.prog.unfollowed 4)) = true := by kernel_rfl
theorem j12 : ((Rows.checkerChecksRow.recurses == Try.prog.recurses 4)) = true := by kernel_rfl
theorem j13 : ((Rows.checkerChecksRow.named == Try.prog.varsNamed 4)) = true := by kernel_rfl
theorem j14 : ((Rows.checkerChecksRow.maps == (Try.f4.params.toList ++ Rows.checkerChecksSpec.plain.varTypes Try.prog).any (Try.prog.mapsRec ·))) = true := by kernel_rfl
theorem j15 : ((Rows.checkerChecksRow.ifaces == (Try.f4.params.toList ++ Rows.checkerChecksSpec.plain.varTypes Try.prog).any (Try.prog.ifacesRec ·))) = true := by kernel_rfl
theorem j16 : ((Rows.checkerChecksRow.mapsOut == Try.prog.mapsAmong Try.f4.resultTypes.toList)) = true := by kernel_rfl
theorem j17 : ((Rows.checkerChecksRow.loops == (Try.f4.params.toList ++ Rows.checkerChecksSpec.plain.varTypes Try.prog).any (Try.prog.loopsFrom ·))) = true := by kernel_rfl
theorem j18 : ((Rows.checkerChecksRow.wideKeys == (Try.f4.params.toList ++ Rows.checkerChecksSpec.plain.varTypes Try.prog ++ Try.f4.resultTypes.toList).any (Try.prog.wideKeysFrom ·))) = true := by kernel_rfl
theorem j19 : (Rows.checkerChecksSpec.vars.all (Try.prog.varReadable ·)) = true := by kernel_rfl
theorem j20 : (Try.f4.resultTypes.all (fun t => Try.prog.readableRec t && decide (t < Try.prog.types.size))) = true := by kernel_rfl
theorem j21 : ((Rows.checkerChecksRow.ifacesOut == Try.f4.resultTypes.toList.any (Try.prog.ifacesRec ·))) = true := by kernel_rfl
theorem j22 : ((Rows.checkerChecksRow.loopsOut == Try.f4.resultTypes.toList.any (Try.prog.loopsFrom ·))) = true := by kernel_rfl
theorem j23 : ((Rows.checkerChecksRow.plainKeys == Try.prog.plainKeys)) = true := by kernel_rfl
theorem j24 : (Rows.checkerChecksRow.shortTexts.isNone) = true := by kernel_rfl
theorem j25 : (Try.prog.stopsHeard) = true := fact25
theorem j26 : (Try.prog.mayEnter) = true := fact26
theorem j27 : ((Rows.checkerChecksRow.lifted == Try.prog.liftsFinal)) = true := fact27
theorem j28 : ((Try.prog.make == some Rows.checkerChecksRow.make)) = true := fact28
theorem j29 : ((Rows.checkerChecksRow.kinds == (if Rows.checkerChecksRow.domain.isEmpty then [] else Try.f4.params.toList.map fun t => match Try.prog.underlying t with | some (.int k) => some k | _ => none))) = true := by kernel_rfl
theorem j30 : ((Rows.checkerChecksRow.pinned == Rows.checkerChecksRow.pinnedBy)) = true := by kernel_rfl
theorem j31 : ((Rows.checkerChecksRow.veiled == (Try.f4.params.toList ++ Rows.checkerChecksSpec.plain.varTypes Try.prog ++ Try.f4.resultTypes.toList).any (Try.prog.veiledRec ·))) = true := by kernel_rfl
theorem j32 : (Rows.checkerChecksRow.veiledFits Try.prog Try.f4.params.toList (Try.f4.params.toList ++ Rows.checkerChecksSpec.plain.varTypes Try.prog ++ Try.f4.resultTypes.toList)) = true := by kernel_rfl
set_option maxRecDepth 100000 in
theorem closed : joinedFacts Try.prog 4 Try.f4 Rows.checkerChecksSpec Rows.checkerChecksRow = true := by
  unfold joinedFacts
  exact and_t (and_t (and_t (and_t (and_t (and_t (and_t (and_t (and_t (and_t (and_t (and_t (and_t (and_t (and_t (and_t (and_t (and_t (and_t (and_t (and_t (and_t (and_t (and_t (and_t (and_t (and_t (and_t (and_t (and_t (and_t (j1) j2) j3) j4) j5) j6) j7) j8) j9) j10) j11) j12) j13) j14) j15) j16) j17) j18) j19) j20) j21) j22) j23) j24) j25) j26) j27) j28) j29) j30) j31) j32
end Go.Proofs.Ythmecidpjlaonaa.checkerChecks

