/-
  The closed facts of the row of checkerHonest, one by one. No condition.
-/
import Derived.Test.YthmecidpjlaonaaFactA
import Derived.Test.YthmecidpjlaonaaFactB
import Derived.Test.YthmecidpjlaonaaFactC
import Derived.Test.YthmecidpjlaonaaFactD
namespace Go.Proofs.Ythmecidpjlaonaa.checkerHonest
theorem j1 : (Rows.checkerHonestRow.wf (OpenSpec.ofChange Rows.checkerHonestSpec)) = true := by kernel_rfl
theorem j2 : (laidOutB Try.prog) = true := fact2
theorem j3 : (mapsRowed Try.prog) = true := fact3
theorem j4 : (Try.f6.params.all (Try.prog.readableRec ·)) = true := by kernel_rfl
theorem j5 : (namedTie Try.prog Rows.checkerHonestRow.named Rows.checkerHonestSpec.vars) = true := by kernel_rfl
theorem j6 : ((Rows.checkerHonestRow.stops == [])) = true := by kernel_rfl
theorem j7 : ((Try.prog.stops == [])) = true := by kernel_rfl
theorem j8 : ((Rows.checkerHonestRow.knobs == [])) = true := by kernel_rfl
theorem j9 : ((Try.prog.stopKnobs == [])) = true := by kernel_rfl
theorem j10 : ((Rows.checkerHonestRow.inPlace == Try.prog.inPlace 6)) = true := by kernel_rfl
theorem j11 : ((Rows.checkerHonestRow.unfollowed == Try.prog.unfollowed 6)) = true := by kernel_rfl
theorem j12 : ((Rows.checkerHonestRow.recurses == Try.prog.recurses 6)) = true := by kernel_rfl
theorem j13 : ((Rows.checkerHonestRow.named == Try.prog.varsNamed 6)) = true := by kernel_rfl
theorem j14 : ((Rows.checkerHonestRow.maps == (Try.f6.params.toList ++ Rows.checkerHonestSpec.plain.varTypes Try.prog).any (Try.prog.mapsRec ·))) = true := by kernel_rfl
theorem j15 : ((Rows.checkerHonestRow.ifaces == (Try.f6.params.toList ++ Rows.checkerHonestSpec.plain.varTypes Try.prog).any (Try.prog.ifacesRec ·))) = true := by kernel_rfl
theorem j16 : ((Rows.checkerHonestRow.mapsOut == Try.prog.mapsAmong Try.f6.resultTypes.toList)) = true := by kernel_rfl
theorem j17 : ((Rows.checkerHonestRow.loops == (Try.f6.params.toList ++ Rows.checkerHonestSpec.plain.varTypes Try.prog).any (Try.prog.loopsFrom ·))) = true := by kernel_rfl
theorem j18 : ((Rows.checkerHonestRow.wideKeys == (Try.f6.params.toList ++ Rows.checkerHonestSpec.plain.varTypes Try.prog ++ Try.f6.resultTypes.toList).any (Try.prog.wideKeysFrom ·))) = true := by kernel_rfl
theorem j19 : (Rows.checkerHonestSpec.vars.all (Try.prog.varReadable ·)) = true := by kernel_rfl
theorem j20 : (Try.f6.resultTypes.all (fun t => Try.prog.readableRec t && decide (t < Try.prog.types.size))) = true := by kernel_rfl
theorem j21 : ((Rows.checkerHonestRow.ifacesOut == Try.f6.resultTypes.toList.any (Try.prog.ifacesRec ·))) = true := by kernel_rfl
theorem j22 : ((Rows.checkerHonestRow.loopsOut == Try.f6.resultTypes.toList.any (Try.prog.loopsFrom ·))) = true := by kernel_rfl
theorem j23 : ((Rows.checkerHonestRow.plainKeys == Try.prog.plainKeys)) = true := by kernel_rfl
theorem j24 : (Rows.checkerHonestRow.shortTexts.isNone) = true := by kernel_rfl
theorem j25 : (Try.prog.stopsHeard) = true := fact25
theorem j26 : (Try.prog.mayEnter) = true := fact26
theorem j27 : ((Rows.checkerHonestRow.lifted == Try.prog.liftsFinal)) = true := fact27
theorem j28 : ((Try.prog.make == some Rows.checkerHonestRow.make)) = true := fact28
theorem j29 : ((Rows.checkerHonestRow.kinds == (if Rows.checkerHonestRow.domain.isEmpty then [] else Try.f6.params.toList.map fun t => match Try.prog.underlying t with | some (.int k) => some k | _ => none))) = true := by kernel_rfl
theorem j30 : ((Rows.checkerHonestRow.pinned == Rows.checkerHonestRow.pinnedBy)) = true := by kernel_rfl
theorem j31 : ((Rows.checkerHonestRow.veiled == (Try.f6.params.toList ++ Rows.checkerHonestSpec.plain.varTypes Try.prog ++ Try.f6.resultTypes.toList).any (Try.prog.veiledRec ·))) = true := by kernel_rfl
theorem j32 : (Rows.checkerHonestRow.veiledFits Try.prog Try.f6.params.toList (Try.f6.params.toList ++ Rows.checkerHonestSpec.plain.varTypes Try.prog ++ Try.f6.resultTypes.toList)) = true := by kernel_rfl
set_option maxRecDepth 100000 in
theorem closed : joinedFacts Try.prog 6 Try.f6 Rows.checkerHonestSpec Rows.checkerHonestRow = true := by
  unfold joinedFacts
  exact and_t (and_t (and_t (and_t (and_t (and_t (and_t (and_t (and_t (and_t (and_t (and_t (and_t (and_t (and_t (and_t (and_t (and_t (and_t (and_t (and_t (and_t (and_t (and_t (and_t (and_t (and_t (and_t (and_t (and_t (and_t (j1) j2) j3) j4) j5) j6) j7) j8) j9) j10) j11) j12) j13) j14) j15) j16) j17) j18) j19) j20) j21) j22) j23) j24) j25) j26) j27) j28) j29) j30) j31) j32
end Go.Proofs.Ythmecidpjlaonaa.checkerHonest

