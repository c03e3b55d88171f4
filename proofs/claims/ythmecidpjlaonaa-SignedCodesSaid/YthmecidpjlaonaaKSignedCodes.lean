/-
  The closed facts of the row of signedCodes, one by one. No condition.
-/
import Derived.Test.YthmecidpjlaonaaFactA
import Derived.Test.YthmecidpjlaonaaFactB
import Derived.Test.YthmecidpjlaonaaFactC
import Derived.Test.YthmecidpjlaonaaFactD
namespace Go.Proofs.Ythmecidpjlaonaa.signedCodes
theorem j1 : (Rows.signedCodesRow.wf (OpenSpec.ofChange Rows.signedCodesSpec)) = true := by kernel_rfl
theorem j2 : (laidOutB Try.prog) = true := fact2
theorem j3 : (mapsRowed Try.prog) = true := fact3
theorem j4 : (Try.f11.params.all (Try.prog.readableRec ·)) = true := by kernel_rfl
theorem j5 : (namedTie Try.prog Rows.signedCodesRow.named Rows.signedCodesSpec.vars) = true := by kernel_rfl
theorem j6 : ((Rows.signedCodesRow.stops == [])) = true := by kernel_rfl
theorem j7 : ((Try.prog.stops == [])) = true := by kernel_rfl
theorem j8 : ((Rows.signedCodesRow.knobs == [])) = true := by kernel_rfl
theorem j9 : ((Try.prog.stopKnobs == [])) = true := by kernel_rfl
theorem j10 : ((Rows.signedCodesRow.inPlace == Try.prog.inPlace 11)) = true := by kernel_rfl
theorem j11 : ((Rows.signedCodesRow.unfollowed == Try.prog.unfollowed 11)) = true := by kernel_rfl
theorem j12 : ((Rows.signedCodesRow.recurses == Try.prog.recurses 11)) = true := by kernel_rfl
theorem j13 : ((Rows.signedCodesRow.named == Try.prog.varsNamed 11)) = true := by kernel_rfl
theorem j14 : ((Rows.signedCodesRow.maps == (Try.f11.params.toList ++ Rows.signedCodesSpec.plain.varTypes Try.prog).any (Try.prog.mapsRec ·))) = true := by kernel_rfl
theorem j15 : ((Rows.signedCodesRow.ifaces == (Try.f11.params.toList ++ Rows.signedCodesSpec.plain.varTypes Try.prog).any (Try.prog.ifacesRec ·))) = true := by kernel_rfl
theorem j16 : ((Rows.signedCodesRow.mapsOut == Try.prog.mapsAmong Try.f11.resultTypes.toList)) = true := by kernel_rfl
theorem j17 : ((Rows.signedCodesRow.loops == (Try.f11.params.toList ++ Rows.signedCodesSpec.plain.varTypes Try.prog).any (Try.prog.loopsFrom ·))) = true := by kernel_rfl
theorem j18 : ((Rows.signedCodesRow.wideKeys == (Try.f11.params.toList ++ Rows.signedCodesSpec.plain.varTypes Try.prog ++ Try.f11.resultTypes.toList).any (Try.prog.wideKeysFrom ·))) = true := by kernel_rfl
theorem j19 : (Rows.signedCodesSpec.vars.all (Try.prog.varReadable ·)) = true := by kernel_rfl
theorem j20 : (Try.f11.resultTypes.all (fun t => Try.prog.readableRec t && decide (t < Try.prog.types.size))) = true := by kernel_rfl
theorem j21 : ((Rows.signedCodesRow.ifacesOut == Try.f11.resultTypes.toList.any (Try.prog.ifacesRec ·))) = true := by kernel_rfl
theorem j22 : ((Rows.signedCodesRow.loopsOut == Try.f11.resultTypes.toList.any (Try.prog.loopsFrom ·))) = true := by kernel_rfl
theorem j23 : ((Rows.signedCodesRow.plainKeys == Try.prog.plainKeys)) = true := by kernel_rfl
theorem j24 : (Rows.signedCodesRow.shortTexts.isNone) = true := by kernel_rfl
theorem j25 : (Try.prog.stopsHeard) = true := fact25
theorem j26 : (Try.prog.mayEnter) = true := fact26
theorem j27 : ((Rows.signedCodesRow.lifted == Try.prog.liftsFinal)) = true := fact27
theorem j28 : ((Try.prog.make == some Rows.signedCodesRow.make)) = true := fact28
theorem j29 : ((Rows.signedCodesRow.kinds == (if Rows.signedCodesRow.domain.isEmpty then [] else Try.f11.params.toList.map fun t => match Try.prog.underlying t with | some (.int k) => some k | _ => none))) = true := by kernel_rfl
theorem j30 : ((Rows.signedCodesRow.pinned == Rows.signedCodesRow.pinnedBy)) = true := by kernel_rfl
theorem j31 : ((Rows.signedCodesRow.veiled == (Try.f11.params.toList ++ Rows.signedCodesSpec.plain.varTypes Try.prog ++ Try.f11.resultTypes.toList).any (Try.prog.veiledRec ·))) = true := by kernel_rfl
theorem j32 : (Rows.signedCodesRow.veiledFits Try.prog Try.f11.params.toList (Try.f11.params.toList ++ Rows.signedCodesSpec.plain.varTypes Try.prog ++ Try.f11.resultTypes.toList)) = true := by kernel_rfl
set_option maxRecDepth 100000 in
theorem closed : joinedFacts Try.prog 11 Try.f11 Rows.signedCodesSpec Rows.signedCodesRow = true := by
  unfold joinedFacts
  exact and_t (and_t (and_t (and_t (and_t (and_t (and_t (and_t (and_t (and_t (and_t (and_t (and_t (and_t (and_t (and_t (and_t (and_t (and_t (and_t (and_t (and_t (and_t (and_t (and_t (and_t (and_t (and_t (and_t (and_t (and_t (j1) j2) j3) j4) j5) j6) j7) j8) j9) j10) j11) j12) j13) j14) j15) j16) j17) j18) j19) j20) j21) j22) j23) j24) j25) j26) j27) j28) j29) j30) j31) j32
end Go.Proofs.Ythmecidpjlaonaa.signedCodes

