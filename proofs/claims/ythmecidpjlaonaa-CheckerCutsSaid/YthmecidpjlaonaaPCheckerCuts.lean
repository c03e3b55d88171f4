/-
  The closed facts of the row of checkerCuts, one by one. No condition.
  The law CheckerAccepts returns true and changes nothing that was there. Condition: its arguments lie in memory below the call.
  The law CheckerCuts returns true and changes nothing that was there. Condition: its arguments lie in memory below the call.
  For all keys, lists and numbers, no proper beginning of an accepted proof is accepted, and neither is the proof with a byte more: the law CheckerCuts returns true. No condition.
-/
import Derived.Test.YthmecidpjlaonaaFactA
import Derived.Test.YthmecidpjlaonaaFactB
import Derived.Test.YthmecidpjlaonaaFactC
import Derived.Test.YthmecidpjlaonaaFactD
import Derived.Test.YthmecidpjlaonaaGPFind
import Derived.Test.YthmecidpjlaonaaGExh
import Derived.Test.YthmecidpjlaonaaGChk
import Derived.Test.YthmecidpjlaonaaGOpen2
import Derived.ShutString
import Derived.ChangeOld
namespace Go.Proofs.Ythmecidpjlaonaa.checkerCuts
theorem j1 : (Rows.checkerCutsRow.wf (OpenSpec.ofChange Rows.checkerCutsSpec)) = true := by kernel_rfl
theorem j2 : (laidOutB Try.prog) = true := fact2
theorem j3 : (mapsRowed Try.prog) = true := fact3
theorem j4 : (Try.f17.params.all (Try.prog.readableRec ·)) = true := by kernel_rfl
theorem j5 : (namedTie Try.prog Rows.checkerCutsRow.named Rows.checkerCutsSpec.vars) = true := by kernel_rfl
theorem j6 : ((Rows.checkerCutsRow.stops == [])) = true := by kernel_rfl
theorem j7 : ((Try.prog.stops == [])) = true := by kernel_rfl
theorem j8 : ((Rows.checkerCutsRow.knobs == [])) = true := by kernel_rfl
theorem j9 : ((Try.prog.stopKnobs == [])) = true := by kernel_rfl
theorem j10 : ((Rows.checkerCutsRow.inPlace == Try.prog.inPlace 17)) = true := by kernel_rfl
theorem j11 : ((Rows.checkerCutsRow.unfollowed == Try.prog.unfollowed 17)) = true := by kernel_rfl
theorem j12 : ((Rows.checkerCutsRow.recurses == Try.prog.recurses 17)) = true := by kernel_rfl
theorem j13 : ((Rows.checkerCutsRow.named == Try.prog.varsNamed 17)) = true := by kernel_rfl
theorem j14 : ((Rows.checkerCutsRow.maps == (Try.f17.params.toList ++ Rows.checkerCutsSpec.plain.varTypes Try.prog).any (Try.prog.mapsRec ·))) = true := by kernel_rfl
theorem j15 : ((Rows.checkerCutsRow.ifaces == (Try.f17.params.toList ++ Rows.checkerCutsSpec.plain.varTypes Try.prog).any (Try.prog.ifacesRec ·))) = true := by kernel_rfl
theorem j16 : ((Rows.checkerCutsRow.mapsOut == Try.prog.mapsAmong Try.f17.resultTypes.toList)) = true := by kernel_rfl
theorem j17 : ((Rows.checkerCutsRow.loops == (Try.f17.params.toList ++ Rows.checkerCutsSpec.plain.varTypes Try.prog).any (Try.prog.loopsFrom ·))) = true := by kernel_rfl
theorem j18 : ((Rows.checkerCutsRow.wideKeys == (Try.f17.params.toList ++ Rows.checkerCutsSpec.plain.varTypes Try.prog ++ Try.f17.resultTypes.toList).any (Try.prog.wideKeysFrom ·))) = true := by kernel_rfl
theorem j19 : (Rows.checkerCutsSpec.vars.all (Try.prog.varReadable ·)) = true := by kernel_rfl
theorem j20 : (Try.f17.resultTypes.all (fun t => Try.prog.readableRec t && decide (t < Try.prog.types.size))) = true := by kernel_rfl
theorem j21 : ((Rows.checkerCutsRow.ifacesOut == Try.f17.resultTypes.toList.any (Try.prog.ifacesRec ·))) = true := by kernel_rfl
theorem j22 : ((Rows.checkerCutsRow.loopsOut == Try.f17.resultTypes.toList.any (Try.prog.loopsFrom ·))) = true := by kernel_rfl
theorem j23 : ((Rows.checkerCutsRow.plainKeys == Try.prog.plainKeys)) = true := by kernel_rfl
theorem j24 : (Rows.checkerCutsRow.shortTexts.isNone) = true := by kernel_rfl
theorem j25 : (Try.prog.stopsHeard) = true := fact25
theorem j26 : (Try.prog.mayEnter) = true := fact26
theorem j27 : ((Rows.checkerCutsRow.lifted == Try.prog.liftsFinal)) = true := fact27
theorem j28 : ((Try.prog.make == some Rows.checkerCutsRow.make)) = true := fact28
theorem j29 : ((Rows.checkerCutsRow.kinds == (if Rows.checkerCutsRow.domain.isEmpty then [] else Try.f17.params.toList.map fun t => match Try.prog.underlying t with | some (.int k) => some k | _ => none))) = true := by kernel_rfl
theorem j30 : ((Rows.checkerCutsRow.pinned == Rows.checkerCutsRow.pinnedBy)) = true := by kernel_rfl
theorem j31 : ((Rows.checkerCutsRow.veiled == (Try.f17.params.toList ++ Rows.checkerCutsSpec.plain.varTypes Try.prog ++ Try.f17.resultTypes.toList).any (Try.prog.veiledRec ·))) = true := by kernel_rfl
theorem j32 : (Rows.checkerCutsRow.veiledFits Try.prog Try.f17.params.toList (Try.f17.params.toList ++ Rows.checkerCutsSpec.plain.varTypes Try.prog ++ Try.f17.resultTypes.toList)) = true := by kernel_rfl
set_option maxRecDepth 100000 in
theorem closed : joinedFacts Try.prog 17 Try.f17 Rows.checkerCutsSpec Rows.checkerCutsRow = true := by
  unfold joinedFacts
  exact and_t (and_t (and_t (and_t (and_t (and_t (and_t (and_t (and_t (and_t (and_t (and_t (and_t (and_t (and_t (and_t (and_t (and_t (and_t (and_t (and_t (and_t (and_t (and_t (and_t (and_t (and_t (and_t (and_t (and_t (and_t (j1) j2) j3) j4) j5) j6) j7) j8) j9) j10) j11) j12) j13) j14) j15) j16) j17) j18) j19) j20) j21) j22) j23) j24) j25) j26) j27) j28) j29) j30) j31) j32
end Go.Proofs.Ythmecidpjlaonaa.checkerCuts
namespace Go.Proofs.Ythmecidpjlaonaa
open Go.RowKit
attribute [local go_sem ↓] Go.wp_at_zero Go.wp_at_succ loadNm loadVt loadSg loadEv
attribute [local go_sem] runNm runVt runSg runEv pickRow_some rowAt_drew rowAt_drewN

theorem evs_ok {w : World} {E : List Ev} (h : ∀ x ∈ E, (SgOk w w.heap.size x.a ∧ SgCap x.a) ∧ (SgOk w w.heap.size x.b ∧ SgCap x.b)) : EvsOk w w.heap.size E := fun e he => ⟨(h e he).1.1, (h e he).2.1⟩

set_option maxRecDepth 100000 in
set_option maxHeartbeats 4000000 in
theorem lacc_core (K A : Option Addr) (nk ck n n' c : Nat) (keys : List Nm) (l : List Sg) (w : World) (hnk : keys.length = nk) (hn : l.length = n') (hK : Rd w w.heap.size K (keys.flatMap nmc)) (hr : Rd w w.heap.size A (l.flatMap sgc))
    (hok : SgsOk w w.heap.size l) (hsmall : n' ≤ 1000000) (hcut : ∀ W, Calls Try.prog 25 #[.slice A n c] W fun e w' => e = .returned (.slice A n' c) ∧ w' = W) :
    Calls Try.prog 18 #[.slice K nk ck, .slice A n c] w fun e w' => e = .returned (.bool true) ∧ Below w.heap.size w w' := by
  have HCut := Lib.hid hcut
  have HF := Lib.hid (pfind_any K A nk ck n' c keys l w hnk hn hK hr hok hsmall)
  have HG : Hid (∀ V, Below w.heap.size w V → Calls Try.prog 50 #[.slice K nk ck, .slice A n' c] V (IntPost V ((gltF keys (l.map Sg.vs) : Nat) : Int))) := fun V hV =>
    glt_any K A nk ck n' c keys l V hnk hn ((hK.below hV).more hV.size) ((hr.below hV).more hV.size) ((hok.below hV).more hV.size) hsmall
  have HK := Lib.hid hK
  have HNK := Lib.hid hnk
  have HAw := Lib.hid awake10_any
  clear hcut hnk hn hK hr hok hsmall
  go_enter Try.func18, Try.ntmps18
  go_upto_region 3 with (first
    | (go_at_call 25; refine (HCut.out _).mono ?_; rintro en w2 ⟨rfl, rfl⟩)
    | (go_at_call 52; refine HF.out.mono ?_; rintro en w1 ⟨E, v, rfl, hb1, hown, hk1, he⟩; obtain ⟨A2, c2, hv, hr2, hc2, hm2⟩ := own_evs hown rfl; subst hv))
  have HE := Lib.hid he
  have hE10 := found_len he
  have HB := Lib.hid (build_any A2 c2 E w1 hr2 (evs_ok hk1) (by omega))
  clear hown hk1 he hr2 hc2 hm2 HF HCut
  try go_frame
  rcases hEe : E with _ | ⟨e0, E0⟩
  · rw [hEe] at HB
    have hnb : ¬ BuildOk [] := fun h => h.1 rfl
    go_upto_region 5 with (go_at_call 19; refine HB.out.mono ?_; rintro en w2 (⟨hy, _⟩ | ⟨_, rfl, hb2⟩))
    all_goals first | exact absurd hy hnb | skip
    go_wp2_with (go_at_call 21; refine (HAw.out _).mono ?_; rintro en w3 ⟨rfl, hb3⟩)
    go_ret
    exact ⟨rfl, (hb1.trans (hb2.mono hb1.size)).trans (hb3.mono (Nat.le_trans hb1.size hb2.size))⟩
  · have hne : E ≠ [] := by rw [hEe]; exact List.cons_ne_nil _ _
    have hbo := found_build HE.out hne
    have hacc := accept_found HE.out hne
    have hpos := glt_pos HE.out hne
    rw [← hEe]
    have hn0 : 0 < E.length := List.length_pos_iff.2 hne
    have hbl := build_len hbo.2.2 (Nat.le_refl _)
    obtain ⟨P, hP⟩ : ∃ P, P = buildB E E.length := ⟨_, rfl⟩
    rw [← hP] at hacc hbl
    obtain ⟨G, hG⟩ : ∃ G, G = gltF keys (l.map Sg.vs) := ⟨_, rfl⟩
    rw [← hG] at hacc hpos HG
    have hB2 : Hid (Calls Try.prog 19 #[.slice A2 E.length c2] w1 (RowTrue w1 5 1 (1 + 786 * E.length) (P.map B))) := by
      rw [hP]
      refine HB.out.mono ?_
      rintro en w2 (⟨_, h⟩ | ⟨h, _⟩)
      · exact h
      · exact absurd hbo h
    obtain ⟨ne, hne'⟩ : ∃ ne, ne = E.length := ⟨_, rfl⟩
    rw [← hne'] at hB2 hn0 hE10 hbl ⊢
    have HAcc := Lib.hid hacc
    have HBl := Lib.hid hbl
    have d0 : decide ((ne : Int) = 0) = false := by simp; omega
    have d0b : ((ne : Int) == 0) = false := by simp; omega
    have g0 : ¬ G = 0 := hpos
    have g0b : ((G : Int) == 0) = false := by simp; omega
    have g0c : ((G : Int) != 0) = true := by simp; omega
    clear hacc hbl hP hG hEe hne hbo HB hne' HE hpos
    go_upto_region 6 with (go_at_call 19; refine hB2.out.mono ?_; rintro en w2 ⟨A3, c3, rfl, hown2, hb2⟩)
    obtain ⟨hl2, hr2, hc2, hm2⟩ := own_bytes hown2
    have hbw2 := hb1.trans (hb2.mono hb1.size)
    have HC : Hid (Calls Try.prog 22 #[.slice K nk ck, .slice A3 (1 + 786 * ne) c3] w2 (CheckPost w2 ((G : Int), 0))) := by
      have h := check_any K A3 ck c3 keys P w2 ((HK.out.below hbw2).more hbw2.size) hr2 (by omega) hm2
      rw [HAcc.out, HNK.out, hl2] at h
      exact h
    clear hown2 hl2 hr2 hc2 hm2 hB2 hb2 hb1
    try go_frame
    go_upto_region 7 with (go_at_call 22; refine HC.out.mono ?_; rintro en w3 ⟨rfl, hb3⟩)
    have hbw3 := hbw2.trans (hb3.mono hbw2.size)
    clear hb3 hbw2 HC
    try go_frame
    go_wp2_with (first
      | (go_at_call 50; refine (HG.out _ hbw3).mono ?_; rintro en w4 ⟨rfl, hb4⟩)
      | (go_at_call 21; refine (HAw.out _).mono ?_; rintro en w5 ⟨rfl, hb5⟩))
    go_ret
    exact ⟨rfl, (hbw3.trans (hb4.mono hbw3.size)).trans (hb5.mono (Nat.le_trans hbw3.size hb4.size))⟩

theorem some_of {w : World} {B' : Nat} {A : Option Addr} {l : List Sg} (h : Rd w B' A (l.flatMap sgc)) (hl : 0 < l.length) : A ≠ none := by
  obtain ⟨b, o, rfl, _⟩ := h.cells (by intro e; have := flat_length sgc 23 l (sgc_len l); rw [e] at this; simp at this; omega)
  simp
theorem lacc_any (K A : Option Addr) (ck c : Nat) (keys : List Nm) (l : List Sg) (w : World) (hK : Rd w w.heap.size K (keys.flatMap nmc)) (hr : Rd w w.heap.size A (l.flatMap sgc)) (hok : SgsOk w w.heap.size l) (hc : l.length ≤ c) :
    Calls Try.prog 18 #[.slice K keys.length ck, .slice A l.length c] w fun e w' => e = .returned (.bool true) ∧ Below w.heap.size w w' :=
  lacc_core K A keys.length ck l.length (min l.length 60) c keys (l.take 60) w rfl (by rw [List.length_take]; omega) hK (hr.sgTake 60) (hok.sub (fun s hs => List.mem_of_mem_take hs)) (by omega) (fun W => cut10_any A l.length c W (fun h => some_of hr (by omega)) hc)
end Go.Proofs.Ythmecidpjlaonaa
namespace Go.Proofs.Ythmecidpjlaonaa
open Go.RowKit
attribute [local go_sem ↓] Go.wp_at_zero Go.wp_at_succ loadNm loadVt loadSg loadEv
attribute [local go_sem] runNm runVt runSg runEv pickRow_some rowAt_drew rowAt_drewN

set_option maxRecDepth 100000 in
set_option maxHeartbeats 4000000 in
theorem lcuts_core (K A : Option Addr) (nk ck n n' c : Nat) (pos : Int) (keys : List Nm) (l : List Sg) (w : World) (hnk : keys.length = nk) (hn : l.length = n') (hK : Rd w w.heap.size K (keys.flatMap nmc)) (hr : Rd w w.heap.size A (l.flatMap sgc))
    (hok : SgsOk w w.heap.size l) (hsmall : n' ≤ 1000000) (hcut : ∀ W, Calls Try.prog 25 #[.slice A n c] W fun e w' => e = .returned (.slice A n' c) ∧ w' = W) :
    Calls Try.prog 17 #[.slice K nk ck, .slice A n c, .int .i64 pos] w fun e w' => e = .returned (.bool true) ∧ Below w.heap.size w w' := by
  have HCut := Lib.hid hcut
  have HF := Lib.hid (pfind_any K A nk ck n' c keys l w hnk hn hK hr hok hsmall)
  have HK := Lib.hid hK
  have HNK := Lib.hid hnk
  have HAw := Lib.hid awake10_any
  clear hcut hnk hn hK hr hok hsmall
  have HB : Hid (∀ (A2 : Option Addr) (c2 : Nat) (E : List Ev) (w1 : World), E.length ≤ 10 → Rd w1 w1.heap.size A2 (E.flatMap evc) → EvsOk w1 w1.heap.size E → Calls Try.prog 19 #[.slice A2 E.length c2] w1 (BuildPost w1 E)) :=
    fun A2 c2 E w1 h h1 h2 => build_any A2 c2 E w1 h1 h2 (by omega)
  go_enter Try.func17, Try.ntmps17
  go_upto_region 2 with (first
    | (go_at_call 25; refine (HCut.out _).mono ?_; rintro en w2 ⟨rfl, hw2⟩; replace hw2 := hw2.symm; subst hw2)
    | (go_at_call 52; refine HF.out.mono ?_; rintro en w1 ⟨E, v, rfl, hb1, hown, hk1, he⟩; obtain ⟨A2, c2, hv, hr2, hc2, hm2⟩ := own_evs hown rfl; subst hv; have hE10 := found_len he; have hBd := HB.out A2 c2 E w1 hE10 hr2 (evs_ok hk1); have HE := Lib.hid he; clear hown hk1 he hr2 hc2 hm2)
    | (go_at_call 19; refine hBd.mono ?_; rintro en w3 (⟨hbo, A3, c3, rfl, hown3, hb3⟩ | ⟨_, rfl, hb3⟩)))
  · have hbl := build_len hbo.2.2 (Nat.le_refl _)
    have hbw3 := hb1.trans (hb3.mono hb1.size)
    have hn0 : 0 < E.length := List.length_pos_iff.2 hbo.1
    obtain ⟨P, hP⟩ : ∃ P, P = buildB E E.length := ⟨_, rfl⟩
    obtain ⟨N, hN⟩ : ∃ N, N = 1 + 786 * E.length := ⟨_, rfl⟩
    have hN1 : 0 < N := by omega
    have hN2 : N ≤ 7861 := by omega
    obtain ⟨d, hd, hdN⟩ : ∃ d : Nat, (IntKind.u64.wrap pos).tmod (N : Int) = (d : Int) ∧ d < N := umod_nat pos N hN1
    have hs := cut_short (keys := keys) hbo d (by rw [hbl, ← hN]; exact hdN)
    have hm := more_long (keys := keys) hbo 0
    rw [← hP] at hs hm hown3 hbl
    rw [← hN] at hown3 hbl ⊢
    obtain ⟨hl3, hr3, hc3, hm3⟩ := own_bytes hown3
    obtain ⟨b3, o3, rfl, hb3lt, _⟩ := hr3.cells (by intro e; rw [List.map_eq_nil_iff] at e; subst e; simp at hl3; omega)
    have HS := Lib.hid hs
    have HM := Lib.hid hm
    have HR3 := Lib.hid hr3
    have HBl := Lib.hid hbl
    have HC1 : Hid (Calls Try.prog 22 #[.slice K nk ck, .slice (some ⟨b3, o3, none⟩) d c3] w3 (CheckPost w3 (0, 2))) := by
      have h := check_any K (some ⟨b3, o3, none⟩) ck c3 keys (P.take d) w3 ((HK.out.below hbw3).more hbw3.size) (by rw [List.map_take]; exact HR3.out.take d) (by rw [List.length_take]; omega) hm3
      rw [HS.out, HNK.out, List.length_take, HBl.out, Nat.min_eq_left (by omega)] at h
      exact h
    have hdc : (d : Int) ≤ (c3 : Int) := by omega
    have hd0 : (0 : Int) ≤ (d : Int) := by omega
    clear hs hm hr3 hbl hl3 hN hP hn0 hBd hown3
    try go_frame
    go_upto_region 6 with (go_at_call 22; refine HC1.out.mono ?_; rintro en w4 ⟨rfl, hb4⟩)
    have hbw4 := hbw3.trans (hb4.mono hbw3.size)
    have HR4 : Hid (Rd w4 w4.heap.size (some ⟨b3, o3, none⟩) (P.map B)) := (HR3.out.below hb4).more hb4.size
    have hmade : Hid ((w4.alloc (.cells #[] 5)).ownsRow w.heap.size 5 1 (.slice (some ⟨w4.heap.size, 0, none⟩) 0 0) 0 []) := World.ownsRow_made w4 #[] 0 hbw4.size (by unfold maxLen; omega) rfl
    clear HC1 hb4 hbw3 HR3 hd hb3lt
    try go_frame
    go_upto_region 7 with (first
      | (at_builtin; refine wpList_app rfl (.tmp 41) (.tmp 42) _ rfl w.heap.size 5 (.int .u8 0) 1 1 Try.underlying23 info_byte rfl (by decide) (.slice (some ⟨w4.heap.size, 0, none⟩) 0 0) 0 [] rfl hmade.out w4.heap.size (some ⟨b3, o3, none⟩) N c3 (P.map B) rfl (by rw [List.length_map, HBl.out, Nat.mul_one]) (HR4.out.alloc (Nat.le_refl _) _) (fun u hu => bytes_one hu) (by omega) (by unfold maxLen; omega) (Nat.le_trans hbw4.size (by simp)) ?_; intro v5 w5 hown5 hg5 hat5; rw [Nat.zero_add, List.nil_append] at hown5; have hbw5 : Below w.heap.size w w5 := below_own (hbw4.alloc hbw4.size _) hmade.out hg5; have HOwn5 := Lib.hid hown5; clear hown5 hg5 hat5)
      | (at_builtin; refine wpList_app rfl (.tmp 43) (.tmp 44) _ rfl w.heap.size 5 (.int .u8 0) 1 1 Try.underlying23 info_byte rfl (by decide) v5 N (P.map B) rfl (HOwn5.out.alloc _) (w5.heap.size + 1) (some ⟨w5.heap.size, 0, none⟩) 1 1 [.int .u8 0] rfl rfl (Rd.one w5 _ _) (fun u hu => one_cell hu rfl) (by omega) (by unfold maxLen; omega) (Nat.le_trans hbw5.size (by simp)) ?_; intro v6 w6 hown6 hg6 hat6; obtain ⟨A6, c6, hv6⟩ := own_form hown6; subst hv6; have hbw6 : Below w.heap.size w w6 := below_own (hbw5.alloc hbw5.size _) (HOwn5.out.alloc _) hg6; have HC2 : Hid (Calls Try.prog 22 #[.slice K nk ck, .slice A6 (N + 1) c6] w6 (CheckPost w6 (0, 3))) := (by
          have e : P.map B ++ [.int .u8 0] = (P ++ [0]).map B := by rw [List.map_append]; rfl
          rw [e] at hown6
          obtain ⟨hl6, hr6, hc6, hm6⟩ := own_bytes hown6
          have h := check_any K A6 ck c6 keys (P ++ [0]) w6 ((HK.out.below hbw6).more hbw6.size) hr6 (by omega) hm6
          rw [HM.out, HNK.out, hl6] at h
          exact h); clear hown6 hg6 hat6)
      | (go_at_call 22; refine HC2.out.mono ?_; rintro en w7 ⟨rfl, hb7⟩))
    have hbw7 := hbw6.trans (hb7.mono hbw6.size)
    go_wp2_with (go_at_call 21; refine (HAw.out _).mono ?_; rintro en w8 ⟨rfl, hb8⟩)
    go_ret
    exact ⟨rfl, hbw7.trans (hb8.mono hbw7.size)⟩
  · go_wp2_with (go_at_call 21; refine (HAw.out _).mono ?_; rintro en w4 ⟨rfl, hb4⟩)
    go_ret
    exact ⟨rfl, (hb1.trans (hb3.mono hb1.size)).trans (hb4.mono (Nat.le_trans hb1.size hb3.size))⟩

theorem lcuts_any (K A : Option Addr) (ck c : Nat) (pos : Int) (keys : List Nm) (l : List Sg) (w : World) (hK : Rd w w.heap.size K (keys.flatMap nmc)) (hr : Rd w w.heap.size A (l.flatMap sgc)) (hok : SgsOk w w.heap.size l) (hc : l.length ≤ c) :
    Calls Try.prog 17 #[.slice K keys.length ck, .slice A l.length c, .int .i64 pos] w fun e w' => e = .returned (.bool true) ∧ Below w.heap.size w w' :=
  lcuts_core K A keys.length ck l.length (min l.length 60) c pos keys (l.take 60) w rfl (by rw [List.length_take]; omega) hK (hr.sgTake 60) (hok.sub (fun s hs => List.mem_of_mem_take hs)) (by omega) (fun W => cut10_any A l.length c W (fun h => some_of hr (by omega)) hc)
end Go.Proofs.Ythmecidpjlaonaa
namespace Go.Proofs.Ythmecidpjlaonaa.checkerCuts
open Go.ChangeShapes Go.WideShapes Go.ChangeAt Go.RowKit

theorem own : ownKnob Try.prog.godebug = none := by kernel_rfl
theorem laidOut : laidOutB Try.prog = true := by kernel_rfl

set_option maxRecDepth 100000 in
set_option maxHeartbeats 1000000 in
theorem lifted (os : Os) (started : os.Started) (H : Type) (enc : TypeId × Value → H) :
    ReturnsInHanded {} Try.checked os 17 .any (Rows.checkerCutsSpec.pre6 enc Try.prog Try.f17 Rows.checkerCutsRow.domain false) (Rows.checkerCutsSpec.post enc Try.prog Try.f17 false true false false) := by
  refine returnsInHanded_of_change_sized (C := Try.checked) own started (by kernel_rfl) Try.func17
    (ChangeSpec.witness6 (enc := enc) (C := Try.checked) false ⟨#[], #[.slice none 0 0, .slice none 0 0, .int .i64 0], []⟩ 8 (by kernel_rfl) (by kernel_rfl) (by kernel_rfl) (by kernel_rfl)) ?_
  intro W base args ds gs before hval0 hW hcnd hsz0 _
  have hval : ∀ (j : Nat) t v, Try.f17.params[j]? = some t → args[j]? = some v → Value.okWide Try.prog W .any base t v := hval0
  have hW' := hW
  obtain ⟨p, q, hA0, hV, rfl, hfz, hnd⟩ := hW
  have hA : DataW.TrodAll enc Try.prog W 0 (fun _ => true) true Try.f17.params.toList args.toList ds p := hA0
  have hsz : (DataW.weightsEach Try.prog (Try.f17.params.toList ++ Rows.checkerCutsSpec.plain.varTypes Try.prog) (ds ++ gs)).all (· ≤ reachBytes) = true := hsz0
  rw [Try.params17] at hA hval hsz
  obtain ⟨v0, vs0, d0, ds0, p0, q0, hargs, rfl, rfl, h0, r0⟩ := trodAll_cons hA
  obtain ⟨v1, vs1, d1, ds1, p1, q1, ha1, rfl, rfl, h1, r1⟩ := trodAll_cons r0
  subst ha1
  obtain ⟨v2, vs2, d2, ds2, p2, q2, ha2, rfl, rfl, h2, r2⟩ := trodAll_cons r1
  subst ha2
  obtain ⟨rfl, rfl, rfl⟩ := trodAll_nil r2
  obtain rfl : args = #[v0, v1, v2] := by cases args; simp_all
  obtain ⟨rfl, rfl⟩ := trodVars_none hV
  have hwt : ∀ k ∈ DataW.weightsEach Try.prog ([28, 29, 3] ++ Rows.checkerCutsSpec.plain.varTypes Try.prog) ([d0, d1, d2] ++ []), k ≤ reachBytes := fun k hk => by simpa using List.all_eq_true.1 hsz k hk
  have k0 := h0
  have lt0 : ∀ x ∈ p0, x.block < W.heap.size := by obtain ⟨m, hm⟩ := k0; exact DataW.trod_lt m _ _ _ hm
  obtain ⟨A0, l0, cap0, hv0, hr0, _, hl0, hm0, _⟩ : ∃ (A : Option Addr) (l : List Nm) (cap : Nat), v0.cells.toList = [.slice A l.length cap] ∧ Rd W W.heap.size A (l.flatMap nmc) ∧ (∀ a ∈ l, True) ∧ l.length ≤ cap ∧ cap ≤ maxLen ∧ l.length * Try.prog.bytesOf 39 ≤ reachBytes := by
    obtain ⟨fuel, hf⟩ := h0
    exact open_list nmc 8 (fun _ => True) Try.underlying28 cells39 (by omega) (fun n cs x h _ => by obtain ⟨nm, e⟩ := open_name h; exact ⟨nm, e, trivial⟩) (fun _ => rfl) hf (mem_weightsEach hwt (j := 0) (t := 28) rfl rfl)
  obtain ⟨a0, len0, c0, rfl⟩ := okWide_slice Try.underlying28 (hval 0 28 v0 rfl rfl)
  simp [Value.cells] at hv0
  obtain ⟨rfl, rfl, rfl⟩ := hv0
  have k1 := h1
  have lt1 : ∀ x ∈ p1, x.block < W.heap.size := by obtain ⟨m, hm⟩ := k1; exact DataW.trod_lt m _ _ _ hm
  obtain ⟨A1, l1, cap1, hv1, hr1, hok1, hl1, hm1, _⟩ : ∃ (A : Option Addr) (l : List Sg) (cap : Nat), v1.cells.toList = [.slice A l.length cap] ∧ Rd W W.heap.size A (l.flatMap sgc) ∧ (∀ a ∈ l, SgOk W W.heap.size a ∧ SgCap a) ∧ l.length ≤ cap ∧ cap ≤ maxLen ∧ l.length * Try.prog.bytesOf 43 ≤ reachBytes := by
    obtain ⟨fuel, hf⟩ := h1
    exact open_list sgc 23 (fun a => SgOk W W.heap.size a ∧ SgCap a) Try.underlying29 cells43 (by omega) (fun n cs x h hw => open_signed2 h hw) (fun e => by simp [sgc, Sg.size_cells]) hf (mem_weightsEach hwt (j := 1) (t := 29) rfl rfl)
  obtain ⟨a1, len1, c1, rfl⟩ := okWide_slice Try.underlying29 (hval 1 29 v1 rfl rfl)
  simp [Value.cells] at hv1
  obtain ⟨rfl, rfl, rfl⟩ := hv1
  have k2 := h2
  have lt2 : ∀ x ∈ p2, x.block < W.heap.size := by obtain ⟨m, hm⟩ := k2; exact DataW.trod_lt m _ _ _ hm
  obtain ⟨n2, hv2, _, hw2⟩ : ∃ n : Int, v2.cells.toList = [.int .i64 n] ∧ True ∧ (Lit.int .i64 n).wf = true := by
    obtain ⟨fuel, hf⟩ := h2
    obtain ⟨n, e, _, hw⟩ := DataW.trod_int Try.underlying3 hf
    exact ⟨n, e, trivial, hw⟩
  obtain ⟨m2, rfl⟩ := okWide_int Try.underlying3 (hval 2 3 v2 rfl rfl)
  simp [Value.cells] at hv2
  subst hv2
  clear hA0 hval0
  refine (lcuts_any a0 a1 c0 c1 m2 l0 l1 W hr0 hr1 hok1 hl1).mono fun e W' ⟨he, bel⟩ => ?_
  subst he
  exact ⟨_, rfl, _, _, _, [], _, [], hW', trodAll_mk1 (shut_bool Try.underlying4 _), (trodAll_cons_mk (Below.trod laidOut (by kernel_rfl) (of_decide_eq_true (by kernel_rfl)) k0 bel lt0) (trodAll_cons_mk (Below.trod laidOut (by kernel_rfl) (of_decide_eq_true (by kernel_rfl)) k1 bel lt1) (trodAll_cons_mk (Below.trod laidOut (by kernel_rfl) (of_decide_eq_true (by kernel_rfl)) k2 bel lt2) trodAll_mk0))), rfl, bel.frame _, fun h => by cases h⟩

theorem over : Rows.checkerCutsRow.holds Try.pinned (OpenSpec.ofChange Rows.checkerCutsSpec) :=
  OpenClaim.holds_of_wide 17 Try.f17 rfl rfl rfl rfl rfl rfl rfl ⟨rfl, rfl, rfl, rfl, rfl⟩ rfl rfl rfl rfl rfl (by kernel_rfl) Try.func17 closed
    (of_decide_eq_true (by kernel_rfl)) (by unfold Func.isWrapper; first | (rw [if_pos (by decide +kernel)]; kernel_rfl) | (rw [if_neg (by decide +kernel)]; exact ⟨rfl, rfl⟩))
    (fun os started H enc _ => lifted os started H enc)

theorem proved : Rows.CheckerCutsSaid := over
end Go.Proofs.Ythmecidpjlaonaa.checkerCuts
