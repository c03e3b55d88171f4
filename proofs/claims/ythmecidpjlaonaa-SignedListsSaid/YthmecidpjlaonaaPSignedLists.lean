/-
  The closed facts of the row of signedLists, one by one. No condition.
  The law SignedLists returns true and changes nothing that was there. Condition: its argument lies in memory below the call.
  For every list of signed votes, Less and Votes answer as the reference's, and Canonical too: the law SignedLists returns true. No condition.
-/
import Derived.Test.YthmecidpjlaonaaFactA
import Derived.Test.YthmecidpjlaonaaFactB
import Derived.Test.YthmecidpjlaonaaFactC
import Derived.Test.YthmecidpjlaonaaFactD
import Derived.Test.YthmecidpjlaonaaGVotes
import Derived.Test.YthmecidpjlaonaaGCan
import Derived.Test.YthmecidpjlaonaaGList
import Derived.Test.YthmecidpjlaonaaGKey
import Derived.Test.YthmecidpjlaonaaGOpen2
import Derived.ShutString
import Derived.ChangeOld
namespace Go.Proofs.Ythmecidpjlaonaa.signedLists
theorem j1 : (Rows.signedListsRow.wf (OpenSpec.ofChange Rows.signedListsSpec)) = true := by kernel_rfl
theorem j2 : (laidOutB Try.prog) = true := fact2
theorem j3 : (mapsRowed Try.prog) = true := fact3
theorem j4 : (Try.f10.params.all (Try.prog.readableRec ·)) = true := by kernel_rfl
theorem j5 : (namedTie Try.prog Rows.signedListsRow.named Rows.signedListsSpec.vars) = true := by kernel_rfl
theorem j6 : ((Rows.signedListsRow.stops == [])) = true := by kernel_rfl
theorem j7 : ((Try.prog.stops == [])) = true := by kernel_rfl
theorem j8 : ((Rows.signedListsRow.knobs == [])) = true := by kernel_rfl
theorem j9 : ((Try.prog.stopKnobs == [])) = true := by kernel_rfl
theorem j10 : ((Rows.signedListsRow.inPlace == Try.prog.inPlace 10)) = true := by kernel_rfl
theorem j11 : ((Rows.signedListsRow.unfollowed == Try.prog.unfollowed 10)) = true := by kernel_rfl
theorem j12 : ((Rows.signedListsRow.recurses == Try.prog.recurses 10)) = true := by kernel_rfl
theorem j13 : ((Rows.signedListsRow.named == Try.prog.varsNamed 10)) = true := by kernel_rfl
theorem j14 : ((Rows.signedListsRow.maps == (Try.f10.params.toList ++ Rows.signedListsSpec.plain.varTypes Try.prog).any (Try.prog.mapsRec ·))) = true := by kernel_rfl
theorem j15 : ((Rows.signedListsRow.ifaces == (Try.f10.params.toList ++ Rows.signedListsSpec.plain.varTypes Try.prog).any (Try.prog.ifacesRec ·))) = true := by kernel_rfl
theorem j16 : ((Rows.signedListsRow.mapsOut == Try.prog.mapsAmong Try.f10.resultTypes.toList)) = true := by kernel_rfl
theorem j17 : ((Rows.signedListsRow.loops == (Try.f10.params.toList ++ Rows.signedListsSpec.plain.varTypes Try.prog).any (Try.prog.loopsFrom ·))) = true := by kernel_rfl
theorem j18 : ((Rows.signedListsRow.wideKeys == (Try.f10.params.toList ++ Rows.signedListsSpec.plain.varTypes Try.prog ++ Try.f10.resultTypes.toList).any (Try.prog.wideKeysFrom ·))) = true := by kernel_rfl
theorem j19 : (Rows.signedListsSpec.vars.all (Try.prog.varReadable ·)) = true := by kernel_rfl
theorem j20 : (Try.f10.resultTypes.all (fun t => Try.prog.readableRec t && decide (t < Try.prog.types.size))) = true := by kernel_rfl
theorem j21 : ((Rows.signedListsRow.ifacesOut == Try.f10.resultTypes.toList.any (Try.prog.ifacesRec ·))) = true := by kernel_rfl
theorem j22 : ((Rows.signedListsRow.loopsOut == Try.f10.resultTypes.toList.any (Try.prog.loopsFrom ·))) = true := by kernel_rfl
theorem j23 : ((Rows.signedListsRow.plainKeys == Try.prog.plainKeys)) = true := by kernel_rfl
theorem j24 : (Rows.signedListsRow.shortTexts.isNone) = true := by kernel_rfl
theorem j25 : (Try.prog.stopsHeard) = true := fact25
theorem j26 : (Try.prog.mayEnter) = true := fact26
theorem j27 : ((Rows.signedListsRow.lifted == Try.prog.liftsFinal)) = true := fact27
theorem j28 : ((Try.prog.make == some Rows.signedListsRow.make)) = true := fact28
theorem j29 : ((Rows.signedListsRow.kinds == (if Rows.signedListsRow.domain.isEmpty then [] else Try.f10.params.toList.map fun t => match Try.prog.underlying t with | some (.int k) => some k | _ => none))) = true := by kernel_rfl
theorem j30 : ((Rows.signedListsRow.pinned == Rows.signedListsRow.pinnedBy)) = true := by kernel_rfl
theorem j31 : ((Rows.signedListsRow.veiled == (Try.f10.params.toList ++ Rows.signedListsSpec.plain.varTypes Try.prog ++ Try.f10.resultTypes.toList).any (Try.prog.veiledRec ·))) = true := by kernel_rfl
theorem j32 : (Rows.signedListsRow.veiledFits Try.prog Try.f10.params.toList (Try.f10.params.toList ++ Rows.signedListsSpec.plain.varTypes Try.prog ++ Try.f10.resultTypes.toList)) = true := by kernel_rfl
set_option maxRecDepth 100000 in
theorem closed : joinedFacts Try.prog 10 Try.f10 Rows.signedListsSpec Rows.signedListsRow = true := by
  unfold joinedFacts
  exact and_t (and_t (and_t (and_t (and_t (and_t (and_t (and_t (and_t (and_t (and_t (and_t (and_t (and_t (and_t (and_t (and_t (and_t (and_t (and_t (and_t (and_t (and_t (and_t (and_t (and_t (and_t (and_t (and_t (and_t (and_t (j1) j2) j3) j4) j5) j6) j7) j8) j9) j10) j11) j12) j13) j14) j15) j16) j17) j18) j19) j20) j21) j22) j23) j24) j25) j26) j27) j28) j29) j30) j31) j32
end Go.Proofs.Ythmecidpjlaonaa.signedLists
namespace Go.Proofs.Ythmecidpjlaonaa
open Go.RowKit
attribute [local go_sem ↓] Go.wp_at_zero Go.wp_at_succ loadNm loadVt loadSg loadEv
attribute [local go_sem] runNm runVt runSg runEv pickRow_some rowAt_drew rowAt_drewN

/-- What Votes returns, as a slice that is read. -/
theorem VtPost.nice {w : World} {L : List Vt} {e : Ending} {w' : World} (h : VtPost w L e w') : ∃ (A : Option Addr) (k : Nat), e = .returned (.slice A L.length k) ∧ Below w.heap.size w w' ∧ Rd w' w'.heap.size A (L.flatMap vtc) ∧ L.length ≤ k ∧ k ≤ maxLen := by
  obtain ⟨v, rfl, hb, hown⟩ := h
  obtain ⟨A, k, rfl, hr, hc, hm⟩ := own_vslice hown rfl
  exact ⟨A, k, rfl, hb, hr, hc, hm⟩
theorem CanPost.flat {w : World} {l : List VS} {e : Ending} {w' : World} (h : CanPost w l e w') : ∃ (L : List Sg) (A : Option Addr) (k : Nat), e = .returned (.slice A L.length k) ∧ Below w.heap.size w w' ∧ Rd w' w'.heap.size A (L.flatMap sgc) ∧ SgsOk w' w'.heap.size L ∧ L.length ≤ k ∧ k ≤ maxLen ∧ L.map Sg.vs = canF l := by
  obtain ⟨L, v, rfl, hb, hown, hk, he⟩ := h
  obtain ⟨A, k, rfl, hr, hc, hm, hs⟩ := own_slice hown rfl hk
  exact ⟨L, A, k, rfl, hb, hr, hs, hc, hm, he⟩
theorem someL {w : World} {B' : Nat} {A : Option Addr} {l : List Sg} (h : Rd w B' A (l.flatMap sgc)) (hl : 0 < l.length) : A ≠ none := by
  obtain ⟨b, o, rfl, _⟩ := h.cells (by intro e; have := flat_length sgc 23 l (sgc_len l); rw [e] at this; simp at this; omega)
  simp
/-- Where a loop with one counter stands. -/
def CntRel (n : Nat) (w : World) (iv : Value) (wr : World) : Prop := ∃ i : Nat, iv = .int .i64 (i : Int) ∧ i ≤ n ∧ Below w.heap.size w wr

set_option maxRecDepth 100000 in
set_option maxHeartbeats 8000000 in
theorem llists_core (A : Option Addr) (n n' c : Nat) (l : List Sg) (w : World) (hn : l.length = n') (hmin : n' = min n 200) (hA : 200 < n → A ≠ none) (hc : n ≤ c) (hmc : c ≤ maxLen) (hr : Rd w w.heap.size A (l.flatMap sgc)) (hok : SgsOk w w.heap.size l) :
    Calls Try.prog 10 #[.slice A n c] w fun e w' => e = .returned (.bool true) ∧ Below w.heap.size w w' := by
  have HN := Lib.hid hn
  have HR := Lib.hid hr
  have HOk := Lib.hid hok
  have HAw := Lib.hid awake8_any
  have hsmall : n' ≤ 200 := by omega
  have hcn : n' ≤ c := by omega
  unfold maxLen at hmc
  clear hn hr hok
  go_enter Try.func10, Try.ntmps10
  go_upto_if 9 with fail
  go_cut [0] (fun v wx => v = .slice A n' c ∧ wx = w)
  case first =>
    by_cases h : 200 < n
    · have d : decide ((200 : Int) < (n : Int)) = true := by simp; omega
      have k : (200 : Int) ≤ (c : Int) := by omega
      have e2 : n' = 200 := by omega
      clear hmin
      subst e2
      rcases A with _ | ⟨b, o, p⟩
      · exact absurd rfl (hA h)
      · go_wp2
        go_meet
        exact ⟨rfl, rfl⟩
    · have d : decide ((200 : Int) < (n : Int)) = false := by simp; omega
      have e2 : n' = n := by omega
      clear hmin
      subst e2
      go_wp2
      go_meet
      exact ⟨rfl, rfl⟩
  case rest =>
    obtain ⟨rfl, hwc⟩ := hcut
    replace hwc := hwc.symm
    subst hwc
    clear hA hmin hc
    go_wp2
    go_loopw [3] (fun iv wr => CntRel n' w iv wr) (fun iv _ => n' - (intOf iv).toNat)
    case atStart => exact ⟨0, rfl, Nat.zero_le _, Below.refl _ _⟩
    case round =>
      obtain ⟨i, rfl, hin, hbw⟩ := hrel
      by_cases hi : i + 1 < n'
      ·
        have di : decide ((i : Int) + 1 < (n' : Int)) = true := by simp; omega
        have ii : i < n' := by omega
        have ij : (0 : Int) ≤ (i : Int) + 1 := by omega
        have ik : (i : Int) + 1 < (n' : Int) := by omega
        have hw : IntKind.i64.wrap ((i : Int) + 1) = ((i + 1 : Nat) : Int) := IntWalk.i64_in _ (by omega)
        obtain ⟨x, hx⟩ : ∃ x, l[i]? = some x := ⟨_, List.getElem?_eq_getElem (by rw [HN.out]; omega)⟩
        obtain ⟨y, hy⟩ : ∃ y, l[i + 1]? = some y := ⟨_, List.getElem?_eq_getElem (by rw [HN.out]; omega)⟩
        obtain ⟨b, o, rfl, hb, hcell⟩ := HR.out.cells (by intro e; have := flat_length sgc 23 l (sgc_len l); rw [e, HN.out] at this; simp at this; omega)
        clear hcell
        have HRows : Hid (∀ W, Below w.heap.size w W → rowAt W b (o + i * 23) 23 = some x.cells ∧ rowAt W b (o + (i + 1) * 23) 23 = some y.cells) := fun W hW => ⟨(HR.out.below hW).sgRow hx, (HR.out.below hW).sgRow hy⟩
        have hxm := HOk.out x (List.mem_of_getElem? hx)
        have hym := HOk.out y (List.mem_of_getElem? hy)
        obtain ⟨r, hrr⟩ : ∃ r, r = lessS x.vs y.vs := ⟨_, rfl⟩
        have HL1 : Hid (∀ W, Below w.heap.size w W → Calls Try.prog 40 #[x.val, y.val] W (BoolPost W r)) := fun W hW => by rw [hrr]; exact sless_any x y W ((hxm.1.below hW).more hW.size) ((hym.1.below hW).more hW.size)
        have HL2 : Hid (∀ W, Below w.heap.size w W → Calls Try.prog 41 #[x.val, y.val] W (BoolPost W r)) := fun W hW => by rw [hrr]; exact rsless_any x y W ((hxm.1.below hW).more hW.size) ((hym.1.below hW).more hW.size)
        clear hx hy hxm hym hrr
        go_upto_region 6 with fail
        refine wp_region_noPanic ?_
        refine wp_region_held_drew (S := fun w' => rowAt w' b (o + i * 23) 23 = some x.cells ∧ rowAt w' b (o + (i + 1) * 23) 23 = some y.cells) (by kernel_rfl) (HRows.out _ hbw.drew) (fun hHeld => ?_)
        refine wpAnyH_takeD (some 19) (i := 0) (v := ?vh1_0) rfl rfl (by kernel_rfl) (by kernel_rfl) (by kernel_rfl) (fun _ _ _ h => h) (by rfl) ?hh1_0 (by assumption) ?_
        case hh1_0 => (intro wq hSw; (try dsimp only at hSw); go_simp; (try (with_reducible rfl)))
        go_frame
        refine wpAnyH_takeD (some 20) (i := 1) (v := ?vh1_1) rfl rfl (by kernel_rfl) (by kernel_rfl) (by kernel_rfl) (fun _ _ _ h => h) (by rfl) ?hh1_1 (by assumption) ?_
        case hh1_1 => (intro wq hSw; (try dsimp only at hSw); go_simp; (try (with_reducible rfl)))
        go_frame
        refine wpAnyH_takeD (some 21) (i := 2) (v := ?vh1_2) rfl rfl (by kernel_rfl) (by kernel_rfl) (by kernel_rfl) (fun _ _ _ h => h) (by rfl) ?hh1_2 (by assumption) ?_
        case hh1_2 => (intro wq hSw; (try dsimp only at hSw); go_simp; (try (with_reducible rfl)))
        go_frame
        refine wpAnyH_takeD (some 22) (i := 3) (v := ?vh1_3) rfl rfl (by kernel_rfl) (by kernel_rfl) (by kernel_rfl) (fun _ _ _ h => h) (by rfl) ?hh1_3 (by assumption) ?_
        case hh1_3 => (intro wq hSw; (try dsimp only at hSw); go_simp; (try (with_reducible rfl)))
        go_frame
        refine wpAnyH_takeD (some 23) (i := 4) (v := ?vh1_4) rfl rfl (by kernel_rfl) (by kernel_rfl) (by kernel_rfl) (fun _ _ _ h => h) (by rfl) ?hh1_4 (by assumption) ?_
        case hh1_4 => (intro wq hSw; (try dsimp only at hSw); go_simp; (try (with_reducible rfl)))
        go_frame
        refine wpAnyH_takeD (some 24) (i := 5) (v := ?vh1_5) rfl rfl (by kernel_rfl) (by kernel_rfl) (by kernel_rfl) (fun _ _ _ h => h) (by rfl) ?hh1_5 (by assumption) ?_
        case hh1_5 => (intro wq hSw; (try dsimp only at hSw); go_simp; (try (with_reducible rfl)))
        go_frame
        refine wpAnyH_takeD (some 25) (i := 6) (v := ?vh1_6) rfl rfl (by kernel_rfl) (by kernel_rfl) (by kernel_rfl) (fun _ _ _ h => h) (by rfl) ?hh1_6 (by assumption) ?_
        case hh1_6 => (intro wq hSw; (try dsimp only at hSw); go_simp; (try (with_reducible rfl)))
        go_frame
        refine wpAnyH_takeD (some 26) (i := 7) (v := ?vh1_7) rfl rfl (by kernel_rfl) (by kernel_rfl) (by kernel_rfl) (fun _ _ _ h => h) (by rfl) ?hh1_7 (by assumption) ?_
        case hh1_7 => (intro wq hSw; (try dsimp only at hSw); go_simp; (try (with_reducible rfl)))
        go_frame
        refine wpAnyH_takeD (some 27) (i := 8) (v := ?vh1_8) rfl rfl (by kernel_rfl) (by kernel_rfl) (by kernel_rfl) (fun _ _ _ h => h) (by rfl) ?hh1_8 (by assumption) ?_
        case hh1_8 => (intro wq hSw; (try dsimp only at hSw); go_simp; (try (with_reducible rfl)))
        go_frame
        refine wpAnyH_takeD (some 29) (i := 10) (v := ?vh1_10) rfl rfl (by kernel_rfl) (by kernel_rfl) (by kernel_rfl) (fun _ _ _ h => h) (by rfl) ?hh1_10 (by assumption) ?_
        case hh1_10 => (intro wq hSw; (try dsimp only at hSw); go_simp; (try (with_reducible rfl)))
        go_frame
        refine wpAnyH_takeD (some 30) (i := 11) (v := ?vh1_11) rfl rfl (by kernel_rfl) (by kernel_rfl) (by kernel_rfl) (fun _ _ _ h => h) (by rfl) ?hh1_11 (by assumption) ?_
        case hh1_11 => (intro wq hSw; (try dsimp only at hSw); go_simp; (try (with_reducible rfl)))
        go_frame
        refine wpAnyH_takeD (some 31) (i := 12) (v := ?vh1_12) rfl rfl (by kernel_rfl) (by kernel_rfl) (by kernel_rfl) (fun _ _ _ h => h) (by rfl) ?hh1_12 (by assumption) ?_
        case hh1_12 => (intro wq hSw; (try dsimp only at hSw); go_simp; (try (with_reducible rfl)))
        go_frame
        refine wpAnyH_takeD (some 32) (i := 13) (v := ?vh1_13) rfl rfl (by kernel_rfl) (by kernel_rfl) (by kernel_rfl) (fun _ _ _ h => h) (by rfl) ?hh1_13 (by assumption) ?_
        case hh1_13 => (intro wq hSw; (try dsimp only at hSw); go_simp; (try (with_reducible rfl)))
        go_frame
        refine wpAnyH_takeD (some 33) (i := 14) (v := ?vh1_14) rfl rfl (by kernel_rfl) (by kernel_rfl) (by kernel_rfl) (fun _ _ _ h => h) (by rfl) ?hh1_14 (by assumption) ?_
        case hh1_14 => (intro wq hSw; (try dsimp only at hSw); go_simp; (try (with_reducible rfl)))
        go_frame
        refine wpAnyH_takeD (some 34) (i := 15) (v := ?vh1_15) rfl rfl (by kernel_rfl) (by kernel_rfl) (by kernel_rfl) (fun _ _ _ h => h) (by rfl) ?hh1_15 (by assumption) ?_
        case hh1_15 => (intro wq hSw; (try dsimp only at hSw); go_simp; (try (with_reducible rfl)))
        go_frame
        refine wpAnyH_takeD (some 35) (i := 16) (v := ?vh1_16) rfl rfl (by kernel_rfl) (by kernel_rfl) (by kernel_rfl) (fun _ _ _ h => h) (by rfl) ?hh1_16 (by assumption) ?_
        case hh1_16 => (intro wq hSw; (try dsimp only at hSw); go_simp; (try (with_reducible rfl)))
        go_frame
        refine wpAnyH_takeD (some 36) (i := 17) (v := ?vh1_17) rfl rfl (by kernel_rfl) (by kernel_rfl) (by kernel_rfl) (fun _ _ _ h => h) (by rfl) ?hh1_17 (by assumption) ?_
        case hh1_17 => (intro wq hSw; (try dsimp only at hSw); go_simp; (try (with_reducible rfl)))
        go_frame
        refine wpAnyH_takeD (some 37) (i := 18) (v := ?vh1_18) rfl rfl (by kernel_rfl) (by kernel_rfl) (by kernel_rfl) (fun _ _ _ h => h) (by rfl) ?hh1_18 (by assumption) ?_
        case hh1_18 => (intro wq hSw; (try dsimp only at hSw); go_simp; (try (with_reducible rfl)))
        go_frame
        refine wpAnyH_ready (rs := [9]) (by kernel_rfl) (by simp) ?_
        refine AllReadyH.cons rfl (fun K hK => ?_) AllReadyH.nil
        go_simp
        refine (HL1.out _ hbw.drew).mono ?_; rintro en w2 ⟨rfl, hb2⟩; have hbw2 := hbw.drew.trans (hb2.mono hbw.size)
        go_wp2_with fail
        refine hK.out _ _ (HRows.out _ hbw2) (fun hHeld => ?_)
        clear hK K
        try go_frame
        refine wpAnyH_ready (rs := [19]) (by kernel_rfl) (by simp) ?_
        refine AllReadyH.cons rfl (fun K hK => ?_) AllReadyH.nil
        go_simp
        refine (HL2.out _ hbw2).mono ?_; rintro en w3 ⟨rfl, hb3⟩; have hbw3 := hbw2.trans (hb3.mono hbw2.size)
        go_wp2_with fail
        refine hK.out _ _ (HRows.out _ hbw3) (fun hHeld => ?_)
        clear hK K
        try go_frame
        refine wpAnyH_takeD (some 39) (i := 20) (v := ?vh1_20) rfl rfl (by kernel_rfl) (by kernel_rfl) (by kernel_rfl) (fun _ _ _ h => h) (by rfl) ?hh1_20 (by assumption) ?_
        case hh1_20 => (intro wq hSw; (try dsimp only at hSw); go_simp; (try (with_reducible rfl)))
        go_frame
        refine wpAnyH_done (by kernel_rfl) ?_ _
        refine NoPanic.normal ?_
        cases r <;> (
          go_wp2_with fail
          go_roundw
          case rel => exact ⟨i + 1, by go_num, by omega, hbw3⟩
          case measure => simp [intOf]; omega)
      · skip
        have di : decide ((i : Int) + 1 < (n' : Int)) = false := by simp; omega
        obtain ⟨D, hD⟩ : ∃ D, D = (canF (l.map Sg.vs)).map (·.1) := ⟨_, rfl⟩
        have HV1 : Hid (Calls Try.prog 42 #[.slice A n' c] wr (VtPost wr D)) := by
          rw [hD]; exact pvotes_any A n' c l wr HN.out ((HR.out.below hbw).more hbw.size) ((HOk.out.below hbw).more hbw.size) (by omega)
        have HV2 : Hid (∀ W, Below w.heap.size w W → Calls Try.prog 43 #[.slice A n' c] W (VtPost W D)) := fun W hW => by
          rw [hD]; exact rvotes_any A n' c l W HN.out ((HR.out.below hW).more hW.size) (by omega)
        have hdl : D.length ≤ n' := by
          have := canF_len (l.map Sg.vs)
          rw [List.length_map, HN.out] at this
          rw [hD, List.length_map]; exact this
        obtain ⟨nd, hnd⟩ : ∃ nd, D.length = nd := ⟨_, rfl⟩
        rw [hnd] at hdl
        have HD := Lib.hid hnd
        clear hD hnd
        go_upto_region 9 with ((first
          | (go_at_call 42; refine HV1.out.mono ?_; rintro en w2 h2; obtain ⟨A2, k2, rfl, hb2, hr2, hc2, hm2⟩ := h2.nice; have hbw2 := hbw.trans (hb2.mono hbw.size); rw [HD.out]; clear h2 HV1)
          | (go_at_call 43; refine (HV2.out _ hbw2).mono ?_; rintro en w3 h3; obtain ⟨A3, k3, rfl, hb3, hr3, hc3, hm3⟩ := h3.nice; have hbw3 := hbw2.trans (hb3.mono hbw2.size); rw [HD.out]; clear h3 HV2)))
        have HR2 := Lib.hid ((hr2.below hb3).more hb3.size)
        have HR3 := Lib.hid hr3
        clear hr2 hr3
        try go_frame
        go_wp2
        go_loopw [6] (fun iv wr => CntRel nd w3 iv wr) (fun iv _ => nd - (intOf iv).toNat)
        case atStart => exact ⟨0, rfl, Nat.zero_le _, Below.refl _ _⟩
        case round =>
          obtain ⟨j, rfl, hjn, hbj⟩ := hrel
          by_cases hj : j < nd
          · have dj : decide ((j : Int) < (nd : Int)) = true := by simp; omega
            have jk : (j : Int) < (nd : Int) := by omega
            obtain ⟨v, hv⟩ : ∃ v, D[j]? = some v := ⟨_, List.getElem?_eq_getElem (by rw [HD.out]; omega)⟩
            obtain ⟨b2, o2, rfl, _, _⟩ := HR2.out.cells (by intro e; have := flat_length vtc 22 D (vtc_len D); rw [e, HD.out] at this; simp at this; omega)
            obtain ⟨b3, o3, rfl, _, _⟩ := HR3.out.cells (by intro e; have := flat_length vtc 22 D (vtc_len D); rw [e, HD.out] at this; simp at this; omega)
            have HRows : Hid (∀ W, Below w3.heap.size w3 W → rowAt W b2 (o2 + j * 22) 22 = some v.cells ∧ rowAt W b3 (o3 + j * 22) 22 = some v.cells) := fun W hW => ⟨(HR2.out.below hW).voteRow hv, (HR3.out.below hW).voteRow hv⟩
            have e1 : ∀ W, (Op.equalIn 10000 41 (.agg v.cells) (.agg v.cells)).run Try.prog W = .ok true W := fun W => by rw [eqVt v v W]; simp
            clear hv
            go_upto_region 14 with fail
            refine wp_region_noPanic ?_
            refine wp_region_held_drew (S := fun w' => rowAt w' b2 (o2 + j * 22) 22 = some v.cells ∧ rowAt w' b3 (o3 + j * 22) 22 = some v.cells) (by kernel_rfl) (HRows.out _ hbj.drew) (fun hHeld => ?_)
            refine wpAnyH_takeD (some 55) (i := 0) (v := ?vh2_0) rfl rfl (by kernel_rfl) (by kernel_rfl) (by kernel_rfl) (fun _ _ _ h => h) (by rfl) ?hh2_0 (by assumption) ?_
            case hh2_0 => (intro wq hSw; (try dsimp only at hSw); go_simp; (try (with_reducible rfl)))
            go_frame
            refine wpAnyH_takeD (some 56) (i := 1) (v := ?vh2_1) rfl rfl (by kernel_rfl) (by kernel_rfl) (by kernel_rfl) (fun _ _ _ h => h) (by rfl) ?hh2_1 (by assumption) ?_
            case hh2_1 => (intro wq hSw; (try dsimp only at hSw); go_simp; (try (with_reducible rfl)))
            go_frame
            refine wpAnyH_takeD (some 57) (i := 2) (v := ?vh2_2) rfl rfl (by kernel_rfl) (by kernel_rfl) (by kernel_rfl) (fun _ _ _ h => h) (by rfl) ?hh2_2 (by assumption) ?_
            case hh2_2 => (intro wq hSw; (try dsimp only at hSw); go_simp; (try (with_reducible rfl)))
            go_frame
            refine wpAnyH_takeD (some 58) (i := 3) (v := ?vh2_3) rfl rfl (by kernel_rfl) (by kernel_rfl) (by kernel_rfl) (fun _ _ _ h => h) (by rfl) ?hh2_3 (by assumption) ?_
            case hh2_3 => (intro wq hSw; (try dsimp only at hSw); go_simp; (try (with_reducible rfl)))
            go_frame
            refine wpAnyH_takeD (some 59) (i := 4) (v := ?vh2_4) rfl rfl (by kernel_rfl) (by kernel_rfl) (by kernel_rfl) (fun _ _ _ h => h) (by rfl) ?hh2_4 (by assumption) ?_
            case hh2_4 => (intro wq hSw; (try dsimp only at hSw); go_simp; (try (with_reducible rfl)))
            go_frame
            refine wpAnyH_takeD (some 60) (i := 5) (v := ?vh2_5) rfl rfl (by kernel_rfl) (by kernel_rfl) (by kernel_rfl) (fun _ _ _ h => h) (by rfl) ?hh2_5 (by assumption) ?_
            case hh2_5 => (intro wq hSw; (try dsimp only at hSw); go_simp; (try (with_reducible rfl)))
            go_frame
            refine wpAnyH_takeD (some 61) (i := 6) (v := ?vh2_6) rfl rfl (by kernel_rfl) (by kernel_rfl) (by kernel_rfl) (fun _ _ _ h => h) (by rfl) ?hh2_6 (by assumption) ?_
            case hh2_6 => (intro wq hSw; (try dsimp only at hSw); go_simp; (try (with_reducible rfl)))
            go_frame
            refine wpAnyH_takeD (some 62) (i := 7) (v := ?vh2_7) rfl rfl (by kernel_rfl) (by kernel_rfl) (by kernel_rfl) (fun _ _ _ h => h) (by rfl) ?hh2_7 (by assumption) ?_
            case hh2_7 => (intro wq hSw; (try dsimp only at hSw); go_simp; (try (with_reducible rfl)))
            go_frame
            refine wpAnyH_takeD (some 63) (i := 8) (v := ?vh2_8) rfl rfl (by kernel_rfl) (by kernel_rfl) (by kernel_rfl) (fun _ _ _ h => h) (by rfl) ?hh2_8 (by assumption) ?_
            case hh2_8 => (intro wq hSw; (try dsimp only at hSw); go_simp; (try (with_reducible rfl)))
            go_frame
            refine wpAnyH_done (by kernel_rfl) ?_ _
            refine NoPanic.normal ?_
            go_wp2_with fail
            go_roundw
            case rel => exact ⟨j + 1, by go_num, by omega, hbj.drew⟩
            case measure => simp [intOf]; omega
          · have dj : decide ((j : Int) < (nd : Int)) = false := by simp; omega
            have hbx := hbw3.trans (hbj.mono hbw3.size)
            have HC1 : Hid (∀ W, Below w.heap.size w W → Calls Try.prog 35 #[.slice A n' c] W (CanPost W (l.map Sg.vs))) := fun W hW => pcan_any A n' c l W HN.out ((HR.out.below hW).more hW.size) ((HOk.out.below hW).more hW.size) (by omega)
            have HC2 : Hid (∀ W, Below w.heap.size w W → Calls Try.prog 44 #[.slice A n' c] W (CanPost W (l.map Sg.vs))) := fun W hW => rcan_any n' A n' c l W (Nat.le_refl _) HN.out ((HR.out.below hW).more hW.size) ((HOk.out.below hW).more hW.size) (by omega) hcn (by unfold maxLen; omega)
            clear HR2 HR3 HD HR HOk
            have hcl : (canF (l.map Sg.vs)).length ≤ n' := by have := canF_len (l.map Sg.vs); rw [List.length_map, HN.out] at this; exact this
            go_wp2_with ((first
              | (go_at_call 35; refine (HC1.out _ hbx).mono ?_; rintro en w4 h4; obtain ⟨C, B4, k4, rfl, hb4, hr4, hok4, hc4, hm4, he4⟩ := h4.flat; have hbw4 := hbx.trans (hb4.mono hbx.size); have HR4 := Lib.hid hr4; have HK4 := Lib.hid hok4; have HE4 := Lib.hid he4; obtain ⟨m, hm⟩ : ∃ m, C.length = m := ⟨_, rfl⟩; rw [hm]; have HM := Lib.hid hm; have hml : m ≤ 1000000 := (by have := congrArg List.length he4; rw [List.length_map, hm] at this; omega); clear h4 hr4 hok4 he4 hm HC1 hcl hc4)
              | (go_at_call 44; refine (HC2.out _ hbw4).mono ?_; rintro en w5 h5; obtain ⟨F, B5, k5, rfl, hb5, hr5, hok5, hc5, hm5, he5⟩ := h5.flat; have hbw5 := hbw4.trans (hb5.mono hbw4.size); have hfm : F.length = m := (by have := congrArg List.length (he5.trans HE4.out.symm); rw [List.length_map, List.length_map, HM.out] at this; exact this); have HLi := Lib.hid (list8_eq B4 B5 k4 k5 m C F w5 HM.out hfm ((HR4.out.below hb5).more hb5.size) hr5 ((HK4.out.below hb5).more hb5.size) hok5 (HE4.out.trans he5.symm) hml); rw [hfm]; clear h5 hr5 hok5 he5 hfm HC2 hc5 hbw4)
              | (go_at_call 36; refine HLi.out.mono ?_; rintro en w6 ⟨rfl, hb6⟩; have hbw6 := hbw5.trans (hb6.mono hbw5.size); clear HLi)
              | (go_at_call 34; refine (HAw.out _).mono ?_; rintro en w7 ⟨rfl, hb7⟩)))
            go_ret
            exact ⟨rfl, hbw6.trans (hb7.mono hbw6.size)⟩

theorem llists_any (A : Option Addr) (c : Nat) (l : List Sg) (w : World) (hr : Rd w w.heap.size A (l.flatMap sgc)) (hok : SgsOk w w.heap.size l) (hc : l.length ≤ c) (hm : c ≤ maxLen) :
    Calls Try.prog 10 #[.slice A l.length c] w fun e w' => e = .returned (.bool true) ∧ Below w.heap.size w w' :=
  llists_core A l.length (min l.length 200) c (l.take 200) w (by rw [List.length_take]; omega) rfl (fun h => someL hr (by omega)) hc hm (hr.sgTake 200) (hok.sub (fun s hs => List.mem_of_mem_take hs))
end Go.Proofs.Ythmecidpjlaonaa
namespace Go.Proofs.Ythmecidpjlaonaa.signedLists
open Go.ChangeShapes Go.WideShapes Go.ChangeAt Go.RowKit

theorem own : ownKnob Try.prog.godebug = none := by kernel_rfl
theorem laidOut : laidOutB Try.prog = true := by kernel_rfl

set_option maxRecDepth 100000 in
set_option maxHeartbeats 1000000 in
theorem lifted (os : Os) (started : os.Started) (H : Type) (enc : TypeId × Value → H) :
    ReturnsInHanded {} Try.checked os 10 .any (Rows.signedListsSpec.pre6 enc Try.prog Try.f10 Rows.signedListsRow.domain false) (Rows.signedListsSpec.post enc Try.prog Try.f10 false true false false) := by
  refine returnsInHanded_of_change_sized (C := Try.checked) own started (by kernel_rfl) Try.func10
    (ChangeSpec.witness6 (enc := enc) (C := Try.checked) false ⟨#[], #[.slice none 0 0], []⟩ 8 (by kernel_rfl) (by kernel_rfl) (by kernel_rfl) (by kernel_rfl)) ?_
  intro W base args ds gs before hval0 hW hcnd hsz0 _
  have hval : ∀ (j : Nat) t v, Try.f10.params[j]? = some t → args[j]? = some v → Value.okWide Try.prog W .any base t v := hval0
  have hW' := hW
  obtain ⟨p, q, hA0, hV, rfl, hfz, hnd⟩ := hW
  have hA : DataW.TrodAll enc Try.prog W 0 (fun _ => true) true Try.f10.params.toList args.toList ds p := hA0
  have hsz : (DataW.weightsEach Try.prog (Try.f10.params.toList ++ Rows.signedListsSpec.plain.varTypes Try.prog) (ds ++ gs)).all (· ≤ reachBytes) = true := hsz0
  rw [Try.params10] at hA hval hsz
  obtain ⟨v0, vs0, d0, ds0, p0, q0, hargs, rfl, rfl, h0, r0⟩ := trodAll_cons hA
  obtain ⟨rfl, rfl, rfl⟩ := trodAll_nil r0
  obtain rfl : args = #[v0] := by cases args; simp_all
  obtain ⟨rfl, rfl⟩ := trodVars_none hV
  have hwt : ∀ k ∈ DataW.weightsEach Try.prog ([29] ++ Rows.signedListsSpec.plain.varTypes Try.prog) ([d0] ++ []), k ≤ reachBytes := fun k hk => by simpa using List.all_eq_true.1 hsz k hk
  have k0 := h0
  have lt0 : ∀ x ∈ p0, x.block < W.heap.size := by obtain ⟨m, hm⟩ := k0; exact DataW.trod_lt m _ _ _ hm
  obtain ⟨A0, l0, cap0, hv0, hr0, hok0, hl0, hm0, _⟩ : ∃ (A : Option Addr) (l : List Sg) (cap : Nat), v0.cells.toList = [.slice A l.length cap] ∧ Rd W W.heap.size A (l.flatMap sgc) ∧ (∀ a ∈ l, SgOk W W.heap.size a ∧ SgCap a) ∧ l.length ≤ cap ∧ cap ≤ maxLen ∧ l.length * Try.prog.bytesOf 43 ≤ reachBytes := by
    obtain ⟨fuel, hf⟩ := h0
    exact open_list sgc 23 (fun a => SgOk W W.heap.size a ∧ SgCap a) Try.underlying29 cells43 (by omega) (fun n cs x h hw => open_signed2 h hw) (fun e => by simp [sgc, Sg.size_cells]) hf (mem_weightsEach hwt (j := 0) (t := 29) rfl rfl)
  obtain ⟨a0, len0, c0, rfl⟩ := okWide_slice Try.underlying29 (hval 0 29 v0 rfl rfl)
  simp [Value.cells] at hv0
  obtain ⟨rfl, rfl, rfl⟩ := hv0
  clear hA0 hval0
  refine (llists_any a0 c0 l0 W hr0 hok0 hl0 hm0).mono fun e W' ⟨he, bel⟩ => ?_
  subst he
  exact ⟨_, rfl, _, _, _, [], _, [], hW', trodAll_mk1 (shut_bool Try.underlying4 _), (trodAll_cons_mk (Below.trod laidOut (by kernel_rfl) (of_decide_eq_true (by kernel_rfl)) k0 bel lt0) trodAll_mk0), rfl, bel.frame _, fun h => by cases h⟩

theorem over : Rows.signedListsRow.holds Try.pinned (OpenSpec.ofChange Rows.signedListsSpec) :=
  OpenClaim.holds_of_wide 10 Try.f10 rfl rfl rfl rfl rfl rfl rfl ⟨rfl, rfl, rfl, rfl, rfl⟩ rfl rfl rfl rfl rfl (by kernel_rfl) Try.func10 closed
    (of_decide_eq_true (by kernel_rfl)) (by unfold Func.isWrapper; first | (rw [if_pos (by decide +kernel)]; kernel_rfl) | (rw [if_neg (by decide +kernel)]; exact ⟨rfl, rfl⟩))
    (fun os started H enc _ => lifted os started H enc)

theorem proved : Rows.SignedListsSaid := over
end Go.Proofs.Ythmecidpjlaonaa.signedLists
