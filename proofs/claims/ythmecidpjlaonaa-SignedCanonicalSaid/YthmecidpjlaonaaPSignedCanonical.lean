/-
  The closed facts of the row of signedCanonical, one by one. No condition.
  The law SignedCanonical returns true and changes nothing that was there. Condition: its arguments lie in memory below the call.
  For every list of signed votes, Canonical does not depend on the order of the list or on repeated elements, leaves a canonical list as it is, ascends and has each vote once: the law SignedCanonical returns true. No condition.
-/
import Derived.Test.YthmecidpjlaonaaFactA
import Derived.Test.YthmecidpjlaonaaFactB
import Derived.Test.YthmecidpjlaonaaFactC
import Derived.Test.YthmecidpjlaonaaFactD
import Derived.Test.YthmecidpjlaonaaGList
import Derived.Test.YthmecidpjlaonaaGKey
import Derived.Test.YthmecidpjlaonaaGChk
import Derived.Deep.DeepCutAuto
import Derived.Test.YthmecidpjlaonaaGOpen2
import Derived.ShutString
import Derived.ChangeOld
namespace Go.Proofs.Ythmecidpjlaonaa.signedCanonical
theorem j1 : (Rows.signedCanonicalRow.wf (OpenSpec.ofChange Rows.signedCanonicalSpec)) = true := by kernel_rfl
theorem j2 : (laidOutB Try.prog) = true := fact2
theorem j3 : (mapsRowed Try.prog) = true := fact3
theorem j4 : (Try.f8.params.all (Try.prog.readableRec ·)) = true := by kernel_rfl
theorem j5 : (namedTie Try.prog Rows.signedCanonicalRow.named Rows.signedCanonicalSpec.vars) = true := by kernel_rfl
theorem j6 : ((Rows.signedCanonicalRow.stops == [])) = true := by kernel_rfl
theorem j7 : ((Try.prog.stops == [])) = true := by kernel_rfl
theorem j8 : ((Rows.signedCanonicalRow.knobs == [])) = true := by kernel_rfl
theorem j9 : ((Try.prog.stopKnobs == [])) = true := by kernel_rfl
theorem j10 : ((Rows.signedCanonicalRow.inPlace == Try.prog.inPlace 8)) = true := by kernel_rfl
theorem j11 : ((Rows.signedCanonicalRow.unfollowed == Try.prog.unfollowed 8)) = true := by kernel_rfl
theorem j12 : ((Rows.signedCanonicalRow.recurses == Try.prog.recurses 8)) = true := by kernel_rfl
theorem j13 : ((Rows.signedCanonicalRow.named == Try.prog.varsNamed 8)) = true := by kernel_rfl
theorem j14 : ((Rows.signedCanonicalRow.maps == (Try.f8.params.toList ++ Rows.signedCanonicalSpec.plain.varTypes Try.prog).any (Try.prog.mapsRec ·))) = true := by kernel_rfl
theorem j15 : ((Rows.signedCanonicalRow.ifaces == (Try.f8.params.toList ++ Rows.signedCanonicalSpec.plain.varTypes Try.prog).any (Try.prog.ifacesRec ·))) = true := by kernel_rfl
theorem j16 : ((Rows.signedCanonicalRow.mapsOut == Try.prog.mapsAmong Try.f8.resultTypes.toList)) = true := by kernel_rfl
theorem j17 : ((Rows.signedCanonicalRow.loops == (Try.f8.params.toList ++ Rows.signedCanonicalSpec.plain.varTypes Try.prog).any (Try.prog.loopsFrom ·))) = true := by kernel_rfl
theorem j18 : ((Rows.signedCanonicalRow.wideKeys == (Try.f8.params.toList ++ Rows.signedCanonicalSpec.plain.varTypes Try.prog ++ Try.f8.resultTypes.toList).any (Try.prog.wideKeysFrom ·))) = true := by kernel_rfl
theorem j19 : (Rows.signedCanonicalSpec.vars.all (Try.prog.varReadable ·)) = true := by kernel_rfl
theorem j20 : (Try.f8.resultTypes.all (fun t => Try.prog.readableRec t && decide (t < Try.prog.types.size))) = true := by kernel_rfl
theorem j21 : ((Rows.signedCanonicalRow.ifacesOut == Try.f8.resultTypes.toList.any (Try.prog.ifacesRec ·))) = true := by kernel_rfl
theorem j22 : ((Rows.signedCanonicalRow.loopsOut == Try.f8.resultTypes.toList.any (Try.prog.loopsFrom ·))) = true := by kernel_rfl
theorem j23 : ((Rows.signedCanonicalRow.plainKeys == Try.prog.plainKeys)) = true := by kernel_rfl
theorem j24 : (Rows.signedCanonicalRow.shortTexts.isNone) = true := by kernel_rfl
theorem j25 : (Try.prog.stopsHeard) = true := fact25
theorem j26 : (Try.prog.mayEnter) = true := fact26
theorem j27 : ((Rows.signedCanonicalRow.lifted == Try.prog.liftsFinal)) = true := fact27
theorem j28 : ((Try.prog.make == some Rows.signedCanonicalRow.make)) = true := fact28
theorem j29 : ((Rows.signedCanonicalRow.kinds == (if Rows.signedCanonicalRow.domain.isEmpty then [] else Try.f8.params.toList.map fun t => match Try.prog.underlying t with | some (.int k) => some k | _ => none))) = true := by kernel_rfl
theorem j30 : ((Rows.signedCanonicalRow.pinned == Rows.signedCanonicalRow.pinnedBy)) = true := by kernel_rfl
theorem j31 : ((Rows.signedCanonicalRow.veiled == (Try.f8.params.toList ++ Rows.signedCanonicalSpec.plain.varTypes Try.prog ++ Try.f8.resultTypes.toList).any (Try.prog.veiledRec ·))) = true := by kernel_rfl
theorem j32 : (Rows.signedCanonicalRow.veiledFits Try.prog Try.f8.params.toList (Try.f8.params.toList ++ Rows.signedCanonicalSpec.plain.varTypes Try.prog ++ Try.f8.resultTypes.toList)) = true := by kernel_rfl
set_option maxRecDepth 100000 in
theorem closed : joinedFacts Try.prog 8 Try.f8 Rows.signedCanonicalSpec Rows.signedCanonicalRow = true := by
  unfold joinedFacts
  exact and_t (and_t (and_t (and_t (and_t (and_t (and_t (and_t (and_t (and_t (and_t (and_t (and_t (and_t (and_t (and_t (and_t (and_t (and_t (and_t (and_t (and_t (and_t (and_t (and_t (and_t (and_t (and_t (and_t (and_t (and_t (j1) j2) j3) j4) j5) j6) j7) j8) j9) j10) j11) j12) j13) j14) j15) j16) j17) j18) j19) j20) j21) j22) j23) j24) j25) j26) j27) j28) j29) j30) j31) j32
end Go.Proofs.Ythmecidpjlaonaa.signedCanonical
namespace Go.Proofs.Ythmecidpjlaonaa
open Go.RowKit
attribute [local go_sem ↓] Go.wp_at_zero Go.wp_at_succ loadNm loadVt loadSg loadEv
attribute [local go_sem] runNm runVt runSg runEv pickRow_some rowAt_drew rowAt_drewN

theorem sgs_one {l : List Sg} {u : Value} (hu : u ∈ l.flatMap sgc) : u.oneCell' = true := by
  obtain ⟨s, _, hs⟩ := List.mem_flatMap.1 hu
  exact s.one u hs
/-- What Canonical returns, as a slice that is read. -/
theorem CanPost.nice {w : World} {l : List VS} {e : Ending} {w' : World} (h : CanPost w l e w') : ∃ (L : List Sg) (A : Option Addr) (k : Nat), e = .returned (.slice A L.length k) ∧ Below w.heap.size w w' ∧ Rd w' w'.heap.size A (L.flatMap sgc) ∧ SgsOk w' w'.heap.size L ∧ L.length ≤ k ∧ k ≤ maxLen ∧ L.map Sg.vs = canF l := by
  obtain ⟨L, v, rfl, hb, hown, hk, he⟩ := h
  obtain ⟨A, k, rfl, hr, hc, hm, hs⟩ := own_slice hown rfl hk
  exact ⟨L, A, k, rfl, hb, hr, hs, hc, hm, he⟩
/-- Where the turning stands: j elements are done. -/
def RevRel (l : List Sg) (n : Nat) (w : World) (tv iv : Value) (wr : World) : Prop :=
  ∃ j : Nat, iv = .int .i64 ((n : Int) - 1 - (j : Int)) ∧ j ≤ n ∧ wr.ownsRow w.heap.size 43 23 tv j ((l.reverse.take j).flatMap sgc) ∧ Below w.heap.size w wr
/-- The turned list. -/
def TurnOk (l : List Sg) (w : World) (tv : Value) (wx : World) : Prop :=
  ∃ T : List Sg, wx.ownsRow w.heap.size 43 23 tv T.length (T.flatMap sgc) ∧ (∀ x, x ∈ T ↔ x ∈ l) ∧ T.length ≤ 400 ∧ Below w.heap.size w wx
theorem get_vs8 {l : List Sg} {k : Nat} {s : Sg} (h : l[k]? = some s) : (l.map Sg.vs)[k]? = some s.vs := by rw [List.getElem?_map, h]; rfl
theorem some8 {w : World} {B' : Nat} {A : Option Addr} {l : List Sg} (h : Rd w B' A (l.flatMap sgc)) (hl : 0 < l.length) : A ≠ none := by
  obtain ⟨b, o, rfl, _⟩ := h.cells (by intro e; have := flat_length sgc 23 l (sgc_len l); rw [e] at this; simp at this; omega)
  simp
/-- A vote of C like that of s, with a signature not behind it, before place k. -/
def DomUpto (C : List Sg) (s : Sg) (k : Nat) : Prop := ∃ j x, j < k ∧ C[j]? = some x ∧ x.vote = s.vote ∧ bytesLe x.sig s.sig = true
theorem domUpto_next {C : List Sg} {s x : Sg} {k : Nat} (hx : C[k]? = some x) : DomUpto C s (k + 1) ↔ DomUpto C s k ∨ (x.vote = s.vote ∧ bytesLe x.sig s.sig = true) := by
  constructor
  · rintro ⟨j, y, h1, h2, h3⟩
    rcases Nat.lt_or_ge j k with h | h
    · exact .inl ⟨j, y, h, h2, h3⟩
    · have : j = k := by omega
      subst this
      rw [hx] at h2; cases h2
      exact .inr h3
  · rintro (⟨j, y, h1, r⟩ | h)
    · exact ⟨j, y, by omega, r⟩
    · exact ⟨k, x, by omega, hx, h⟩
def DomRel (C : List Sg) (s : Sg) (n : Nat) (w : World) (fv kv : Value) (wr : World) : Prop :=
  ∃ (k : Nat) (f : Bool), kv = .int .i64 (k : Int) ∧ fv = .bool f ∧ k ≤ n ∧ (f = true ↔ DomUpto C s k) ∧ Below w.heap.size w wr
theorem rev_next {l : List Sg} {j r : Nat} {s : Sg} (hr : r + 1 + j = l.length) (hs : l[r]? = some s) : l.reverse.take (j + 1) = l.reverse.take j ++ [s] := by
  rw [List.take_add_one, List.getElem?_reverse (by omega), show l.length - 1 - j = r from by omega, hs]; rfl

set_option maxRecDepth 100000 in
set_option maxHeartbeats 8000000 in
theorem lcanon_core (A : Option Addr) (n n' c : Nat) (by_ : Int) (l : List Sg) (w : World) (hn : l.length = n') (hmin : n' = min n 200) (hA : 200 < n → A ≠ none) (hc : n ≤ c) (hmc : c ≤ maxLen) (hr : Rd w w.heap.size A (l.flatMap sgc)) (hok : SgsOk w w.heap.size l) :
    Calls Try.prog 8 #[.slice A n c, .int .i64 by_] w fun e w' => e = .returned (.bool true) ∧ Below w.heap.size w w' := by
  have HN := Lib.hid hn
  have HR := Lib.hid hr
  have HOk := Lib.hid hok
  have HAw := Lib.hid awake8_any
  have hsmall : n' ≤ 200 := by omega
  have hcn : n' ≤ c := by omega
  unfold maxLen at hmc
  have HCan : Hid (∀ (B : Option Addr) (k kc : Nat) (L : List Sg) (V : World), L.length = k → Rd V V.heap.size B (L.flatMap sgc) → SgsOk V V.heap.size L → k ≤ 1000000 → Calls Try.prog 35 #[.slice B k kc] V (CanPost V (L.map Sg.vs))) := fun B k kc L V h1 h2 h3 h4 => pcan_any B k kc L V h1 h2 h3 h4
  clear hn hr hok
  go_enter Try.func8, Try.ntmps8
  go_upto_if 15 with fail
  go_cut [0] (fun v wx => v = .slice A n' c ∧ wx = w)
  case first =>
    by_cases h : 200 < n
    · have d : decide ((200 : Int) < (n : Int)) = true := by simp; omega
      have k : (200 : Int) ≤ (c : Int) := by omega
      have e2 : n' = 200 := by omega
      clear hmin
      subst e2
      rcases A with _ | ⟨b, o, p⟩
      · exact absurd rfl (hA h)
      · go_wp2
        go_meet
        exact ⟨rfl, rfl⟩
    · have d : decide ((200 : Int) < (n : Int)) = false := by simp; omega
      have e2 : n' = n := by omega
      clear hmin
      subst e2
      go_wp2
      go_meet
      exact ⟨rfl, rfl⟩
  case rest =>
    obtain ⟨rfl, hwc⟩ := hcut
    replace hwc := hwc.symm
    subst hwc
    clear hA hmin hc
    have hC1 := HCan.out A n' c l w HN.out HR.out HOk.out (by omega)
    have HC1 := Lib.hid hC1
    clear hC1
    go_upto_region 4 with (go_at_call 35; refine HC1.out.mono ?_; rintro en w1 h1; obtain ⟨C, B1, c1, rfl, hb1, hr1, hk1, hc1, hm1, he1⟩ := h1.nice; clear h1 HC1)
    have HR1 := Lib.hid hr1
    have HK1 := Lib.hid hk1
    have HE1 := Lib.hid he1
    clear hr1 hk1 he1
    try go_frame
    go_wp2
    go_loopw [6, 7] (fun tv iv wr => RevRel l n' w1 tv iv wr) (fun _ iv _ => (intOf iv + 1).toNat)
    case atStart => exact ⟨0, by simp, Nat.zero_le _, ⟨rfl, .inl ⟨rfl, rfl⟩⟩, Below.refl _ _⟩
    case round =>
      obtain ⟨j, rfl, hjn, hown, hbw⟩ := hrel
      have HOwn := Lib.hid hown
      clear hown
      by_cases hj : j < n'
      · obtain ⟨r, hrr⟩ : ∃ r : Nat, r + 1 + j = n' := ⟨n' - 1 - j, by omega⟩
        have hir : (n' : Int) - 1 - (j : Int) = (r : Int) := by omega
        have hrn : (r : Int) < (n' : Int) := by omega
        have hr0 : (0 : Int) ≤ (r : Int) := by omega
        have dr : decide ((0 : Int) ≤ (r : Int)) = true := by simp
        rw [hir]
        obtain ⟨s, hs⟩ : ∃ s, l[r]? = some s := ⟨_, List.getElem?_eq_getElem (by rw [HN.out]; omega)⟩
        obtain ⟨b, o, rfl, _, _⟩ := HR.out.cells (by intro e; have := flat_length sgc 23 l (sgc_len l); rw [e, HN.out] at this; simp at this; omega)
        have x1 : rowAt wr b (o + r * 23) 23 = some s.cells := (HR.out.below (hb1.trans (hbw.mono hb1.size))).sgRow hs
        have HS := Lib.hid hs
        have HRr := Lib.hid hrr
        have HIr := Lib.hid hir
        clear hs hrr hir
        go_wp2_with ((first
          | (refine wpList_build1 rfl 29 43 (.tmp 31) rfl s.cells rfl Try.underlying29 (by rw [Sg.size_cells]; kernel_rfl) (by rw [Sg.size_cells]; omega) (by rw [Sg.size_cells]; omega) ?_)
          | (at_builtin; refine wpList_app rfl (.tmp 27) (.tmp 32) _ rfl w1.heap.size 43 (.agg zeroSc) 23 88 Try.underlying29 info_signed rfl (by decide) u6 j ((l.reverse.take j).flatMap sgc) rfl (HOwn.out.alloc _) (wr.heap.size + 1) (some ⟨wr.heap.size, 0, none⟩) 1 1 (sgc s) rfl (by rw [Array.length_toList]; exact s.size_cells) (Rd.mk (by omega) (fun j u hu => by rw [Nat.zero_add, (Blk.new wr _ _).cell]; simpa using hu)) (fun u hu => s.one u hu) (by omega) (by unfold maxLen; omega) (Nat.le_trans hbw.size (by simp)) ?_; intro v3 w3 hown3 hg3 hat3; have hbw3 : Below w1.heap.size w1 w3 := below_own (hbw.alloc hbw.size _) (HOwn.out.alloc _) hg3; have HOwn3 := Lib.hid hown3; clear hown3 hg3 hat3)))
        go_roundw
        case rel =>
          refine ⟨j + 1, ?_, by omega, ?_, hbw3⟩
          · have := HIr.out
            rw [Value.int.injEq]
            refine ⟨rfl, ?_⟩
            push_cast
            omega
          · have h := HOwn3.out
            rw [rev_next (by rw [HN.out]; exact HRr.out) HS.out, List.flatMap_append]
            simpa using h
        case measure => simp [intOf]
      · obtain rfl : n' = j := by omega
        have ei : (n' : Int) - 1 - (n' : Int) = -1 := by omega
        rw [ei]
        have HOw : Hid (wr.ownsRow w1.heap.size 43 23 u6 n' (l.reverse.flatMap sgc)) := by
          have h := HOwn.out
          rwa [List.take_of_length_le (by rw [List.length_reverse, HN.out]; exact Nat.le_refl _)] at h
        clear HOwn ei
        go_upto_if 36 with fail
        go_cut [6] (fun tv wx => TurnOk l w1 tv wx)
        case first =>
          by_cases h0 : 0 < n'
          · have d0 : decide ((0 : Int) < (n' : Int)) = true := by simp; omega
            have hwn : IntKind.u64.wrap (n' : Int) = (n' : Int) := by rw [IntKind.wrap_u64]; omega
            obtain ⟨d, hd, hdn⟩ : ∃ d : Nat, (IntKind.u64.wrap by_).tmod (n' : Int) = (d : Int) ∧ d < n' := umod_nat by_ n' h0
            have hk0 : (0 : Int) ≤ (d : Int) := by omega
            have hkn : (d : Int) < (n' : Int) := by omega
            have hkm : (d : Int) ≤ (n' : Int) := by omega
            have hkl : (d : Int) ≤ (c : Int) := by omega
            have hcd : ¬ c = d := by omega
            obtain ⟨b, o, rfl, _, _⟩ := HR.out.cells (by intro e; have := flat_length sgc 23 l (sgc_len l); rw [e, HN.out] at this; simp at this; omega)
            have HRl : Hid (∀ V, Below w1.heap.size w1 V → Rd V w1.heap.size (some ⟨b, o, none⟩) (l.flatMap sgc)) := fun V hV => ((HR.out.below hb1).more hb1.size).below hV
            go_upto_region 11 with fail
            refine wp_region_noPanic ?_
            refine wp_region_held_drew (S := fun _ => True) (by kernel_rfl) (trivial) (fun hHeld => ?_)
            refine wpAnyH_takeD (some 44) (i := 0) (v := ?vh1_0) rfl rfl (by kernel_rfl) (by kernel_rfl) (by kernel_rfl) (fun _ _ _ h => h) (by rfl) ?hh1_0 (by assumption) ?_
            case hh1_0 => (intro wq hSw; (try dsimp only at hSw); go_simp; (try (with_reducible rfl)))
            go_frame
            refine wpAnyH_takeD (some 45) (i := 1) (v := ?vh1_1) rfl rfl (by kernel_rfl) (by kernel_rfl) (by kernel_rfl) (fun _ _ _ h => h) (by rfl) ?hh1_1 (by assumption) ?_
            case hh1_1 => (intro wq hSw; (try dsimp only at hSw); go_simp; (try (with_reducible rfl)))
            go_frame
            refine wpAnyH_takeD (some 46) (i := 2) (v := ?vh1_2) rfl rfl (by kernel_rfl) (by kernel_rfl) (by kernel_rfl) (fun _ _ _ h => h) (by rfl) ?hh1_2 (by assumption) ?_
            case hh1_2 => (intro wq hSw; (try dsimp only at hSw); go_simp; (try (with_reducible rfl)))
            go_frame
            refine wpAnyH_takeD (some 47) (i := 3) (v := ?vh1_3) rfl rfl (by kernel_rfl) (by kernel_rfl) (by kernel_rfl) (fun _ _ _ h => h) (by rfl) ?hh1_3 (by assumption) ?_
            case hh1_3 => (intro wq hSw; (try dsimp only at hSw); go_simp; (try (with_reducible rfl)))
            go_frame
            refine wpAnyH_takeD (some 49) (i := 5) (v := ?vh1_5) rfl rfl (by kernel_rfl) (by kernel_rfl) (by kernel_rfl) (fun _ _ _ h => h) (by rfl) ?hh1_5 (by assumption) ?_
            case hh1_5 => (intro wq hSw; (try dsimp only at hSw); go_simp; (try (with_reducible rfl)))
            go_frame
            refine wpAnyH_takeD (some 50) (i := 6) (v := ?vh1_6) rfl rfl (by kernel_rfl) (by kernel_rfl) (by kernel_rfl) (fun _ _ _ h => h) (by rfl) ?hh1_6 (by assumption) ?_
            case hh1_6 => (intro wq hSw; (try dsimp only at hSw); go_simp; (try (with_reducible rfl)))
            go_frame
            refine wpAnyH_takeD (some 51) (i := 7) (v := ?vh1_7) rfl rfl (by kernel_rfl) (by kernel_rfl) (by kernel_rfl) (fun _ _ _ h => h) (by rfl) ?hh1_7 (by assumption) ?_
            case hh1_7 => (intro wq hSw; (try dsimp only at hSw); go_simp; (try (with_reducible rfl)))
            go_frame
            refine wpAnyH_ready (rs := [4]) (by kernel_rfl) (by simp) ?_
            refine AllReadyH.cons rfl (fun K hK => ?_) AllReadyH.nil
            rw [if_pos (by rfl)]
            refine wp_appD (some 48) (by rfl) (.tmp 44) (.tmp 47) _ (by rfl) w1.heap.size 43 (.agg zeroSc) 23 88 Try.underlying29 info_signed rfl (by decide) u6 n' (l.reverse.flatMap sgc) (by rfl) (own_drew HOw.out) w1.heap.size (some ⟨b, o + d * 23, none⟩) (n' - d) (c - d) ((l.drop d).flatMap sgc) (by rfl) (by rw [flat_length sgc 23 _ (sgc_len _), List.length_drop, HN.out]) ((HRl.out _ hbw.drew).sgDrop d) (fun u hu => sgs_one hu) (by omega) (by unfold maxLen; omega) hbw.size ?_; intro v2 w2 hown2 hg2 hat2; have hbw2 : Below w1.heap.size w1 w2 := below_own hbw.drew (own_drew HOw.out) hg2; have HOwn2 := Lib.hid hown2; clear hown2 hg2 hat2
            refine hK.out _ _ (trivial) (fun hHeld => ?_)
            clear hK K
            try go_frame
            refine wpAnyH_ready (rs := [8]) (by kernel_rfl) (by simp) ?_
            refine AllReadyH.cons rfl (fun K hK => ?_) AllReadyH.nil
            rw [if_pos (by rfl)]
            refine wp_appD (some 52) (by rfl) (.tmp 48) (.tmp 51) _ (by rfl) w1.heap.size 43 (.agg zeroSc) 23 88 Try.underlying29 info_signed rfl (by decide) v2 (n' + (n' - d)) (l.reverse.flatMap sgc ++ (l.drop d).flatMap sgc) (by rfl) HOwn2.out w1.heap.size (some ⟨b, o, none⟩) d c ((l.take d).flatMap sgc) (by rfl) (by rw [flat_length sgc 23 _ (sgc_len _), List.length_take, HN.out, Nat.min_eq_left (by omega)]) ((HRl.out _ hbw2).sgTake d) (fun u hu => sgs_one hu) (by omega) (by unfold maxLen; omega) hbw2.size ?_; intro v3 w3 hown3 hg3 hat3; have hbw3 : Below w1.heap.size w1 w3 := below_own hbw2 HOwn2.out hg3; have HOwn3 := Lib.hid hown3; clear hown3 hg3 hat3
            refine hK.out _ _ (trivial) (fun hHeld => ?_)
            clear hK K
            try go_frame
            refine wpAnyH_takeD (some 6) (i := 9) (v := ?vh1_9) rfl rfl (by kernel_rfl) (by kernel_rfl) (by kernel_rfl) (fun _ _ _ h => h) (by rfl) ?hh1_9 (by assumption) ?_
            case hh1_9 => (intro wq hSw; (try dsimp only at hSw); go_simp; (try (with_reducible rfl)))
            go_frame
            refine wpAnyH_done (by kernel_rfl) ?_ _
            refine NoPanic.normal ?_
            go_wp2_with fail
            go_meet
            refine ⟨l.reverse ++ l.drop d ++ l.take d, ?_, fun x => ?_, ?_, hbw3⟩
            · have h := HOwn3.out
              rw [← List.flatMap_append, ← List.flatMap_append] at h
              rw [List.length_append, List.length_append, List.length_reverse, List.length_drop, List.length_take, HN.out, Nat.min_eq_left (by omega)]
              exact h
            · rw [List.mem_append, List.mem_append, List.mem_reverse]
              exact ⟨fun h => h.elim (fun h => h.elim id List.mem_of_mem_drop) List.mem_of_mem_take, fun h => .inl (.inl h)⟩
            · rw [List.length_append, List.length_append, List.length_reverse, List.length_drop, List.length_take, HN.out]; omega
          · have d0 : decide ((0 : Int) < (n' : Int)) = false := by simp; omega
            go_wp2
            go_meet
            exact ⟨l.reverse, by rw [List.length_reverse, HN.out]; exact HOw.out, fun x => List.mem_reverse, by rw [List.length_reverse, HN.out]; omega, hbw⟩
        case rest =>
          clear hbw HOw
          obtain ⟨T, hownT, hmemT, hlenT, hbw⟩ := hcut
          have hbx := hb1.trans (hbw.mono hb1.size)
          have hTok : SgsOk wc wc.heap.size T := fun s hs => by
            have := (HOk.out s ((hmemT s).1 hs))
            exact ⟨(this.1.below hbx).more hbx.size, this.2⟩
          obtain ⟨BT, kT, hvT, hrT, hcT, hmT, hkT⟩ := own_slice hownT rfl hTok
          subst hvT
          have HCT := Lib.hid (HCan.out BT T.length kT T wc rfl hrT hkT (by omega))
          have heT : canF (T.map Sg.vs) = canF (l.map Sg.vs) := canF_congr fun x => by
            rw [List.mem_map, List.mem_map]
            exact ⟨fun ⟨s, h, e⟩ => ⟨s, (hmemT s).1 h, e⟩, fun ⟨s, h, e⟩ => ⟨s, (hmemT s).2 h, e⟩⟩
          have HT := Lib.hid heT
          have hCl : C.length ≤ 200 := by
            have h1 := congrArg List.length HE1.out
            rw [List.length_map] at h1
            have h2 := canF_len (l.map Sg.vs)
            rw [List.length_map, HN.out] at h2
            omega
          obtain ⟨nc, hnc⟩ : ∃ nc, nc = C.length := ⟨_, rfl⟩
          rw [← hnc] at hCl hc1 ⊢
          have HNc : Hid (C.length = nc) := hnc.symm
          have HSt : Hid (StrictV (C.map Sg.vs)) := by unfold Hid; rw [HE1.out]; exact (canF_is _).asc
          have HCC : Hid (∀ V, Below w1.heap.size w1 V → Calls Try.prog 35 #[.slice B1 nc c1] V (CanPost V (C.map Sg.vs))) := fun V hV => HCan.out B1 nc c1 C V HNc.out ((HR1.out.below hV).more hV.size) ((HK1.out.below hV).more hV.size) (by omega)
          have HId : Hid (canF (C.map Sg.vs) = C.map Sg.vs) := canF_asc (asc_of_strict HSt.out)
          clear hownT hmemT hlenT hTok hrT hcT hmT hkT heT hnc
          go_upto_region 14 with (first
            | (go_at_call 35; refine HCT.out.mono ?_; rintro en w2 h2; obtain ⟨D, B2, c2, rfl, hb2, hr2, hk2, hc2, hm2, he2'⟩ := h2.nice; have he2 := he2'.trans HT.out; have hlD : D.length = nc := (by have := congrArg List.length (he2.trans HE1.out.symm); rw [List.length_map, List.length_map, HNc.out] at this; exact this); have hbw2 := hbw.trans (hb2.mono hbw.size); have HL1 : Hid (Calls Try.prog 36 #[.slice B2 D.length c2, .slice B1 nc c1] w2 (BoolPost w2 true)) := (by rw [hlD]; exact list8_eq B2 B1 c2 c1 nc D C w2 hlD HNc.out hr2 ((HR1.out.below hbw2).more hbw2.size) hk2 ((HK1.out.below hbw2).more hbw2.size) (he2.trans HE1.out.symm) (by omega)); clear h2 hlD he2 he2' hr2 hk2 hc2 hm2 HCT)
            | (go_at_call 36; refine HL1.out.mono ?_; rintro en w3 ⟨rfl, hb3⟩; have hbw3 := hbw2.trans (hb3.mono hbw2.size); clear HL1)
            | (go_at_call 35; refine (HCC.out _ hbw3).mono ?_; rintro en w4 h4; obtain ⟨D4, B4, c4, rfl, hb4, hr4, hk4, hc4, hm4, he4⟩ := h4.nice; have hl4 : D4.length = nc := (by have := congrArg List.length (he4.trans HId.out); rw [List.length_map, List.length_map, HNc.out] at this; exact this); have hbw4 := hbw3.trans (hb4.mono hbw3.size); have HL4 : Hid (Calls Try.prog 36 #[.slice B4 D4.length c4, .slice B1 nc c1] w4 (BoolPost w4 true)) := (by rw [hl4]; exact list8_eq B4 B1 c4 c1 nc D4 C w4 hl4 HNc.out hr4 ((HR1.out.below hbw4).more hbw4.size) hk4 ((HK1.out.below hbw4).more hbw4.size) (he4.trans HId.out) (by omega)); clear h4 hl4 he4 hr4 hk4 hc4 hm4 HCC)
            | (go_at_call 36; refine HL4.out.mono ?_; rintro en w5 ⟨rfl, hb5⟩; have hbw5 := hbw4.trans (hb5.mono hbw4.size); clear HL4))
          clear hbw hbx hb2 hb3 hb4 hb5 hbw2 hbw3 hbw4
          try go_frame
          go_wp2
          go_loopw [9] (fun iv wr => CntRel8 nc w1 iv wr) (fun iv _ => nc - (intOf iv).toNat)
          case atStart => exact ⟨0, rfl, Nat.zero_le _, hbw5⟩
          case round =>
            clear hbw5
            obtain ⟨i, rfl, hin, hbw⟩ := hrel
            by_cases hi : i < nc
            · have di : decide ((i : Int) < (nc : Int)) = true := by simp; omega
              have i0 : (0 : Int) ≤ (i : Int) := by omega
              have i1 : (i : Int) < (nc : Int) := by omega
              obtain ⟨x, hx⟩ : ∃ x, C[i]? = some x := ⟨_, List.getElem?_eq_getElem (by rw [HNc.out]; exact hi)⟩
              obtain ⟨bC, oC, rfl, _, _⟩ := HR1.out.cells (by intro e; have := flat_length sgc 23 C (sgc_len C); rw [e, HNc.out] at this; simp at this; omega)
              go_upto_region 17 with fail
              by_cases h0 : 0 < i
              · have dp : decide ((0 : Int) < (i : Int)) = true := by simp; omega
                have dp2 : decide (0 < i) = true := by simp; omega
                obtain ⟨j, hj⟩ : ∃ j, j + 1 = i := ⟨i - 1, by omega⟩
                have hji : (i : Int) - 1 = (j : Int) := by omega
                have j0 : (0 : Int) ≤ (j : Int) := by omega
                have j1 : (j : Int) < (nc : Int) := by omega
                have hwj : IntKind.i64.wrap (j : Int) = (j : Int) := IntWalk.i64_in _ (by omega)
                obtain ⟨y, hy⟩ : ∃ y, C[j]? = some y := ⟨_, List.getElem?_eq_getElem (by rw [HNc.out]; omega)⟩
                have hlt : lessV y.vote x.vote = true := by
                  obtain ⟨h1, h2⟩ := List.getElem?_eq_some_iff.1 (get_vs8 hx)
                  obtain ⟨h3, h4⟩ := List.getElem?_eq_some_iff.1 (get_vs8 hy)
                  have := (List.pairwise_iff_getElem.1 HSt.out) j i h3 h1 (by omega)
                  rw [h2, h4] at this
                  exact this
                have HLs : Hid (∀ V, Calls Try.prog 37 #[y.vote.val, x.vote.val] V (BoolPost V true)) := fun V => by rw [← hlt]; exact vless_any y.vote x.vote V
                have HRows : Hid (∀ V, Below w1.heap.size w1 V → rowAt V bC (oC + j * 23) 22 = some y.vote.cells ∧ rowAt V bC (oC + i * 23) 22 = some x.vote.cells) := fun V hV => ⟨(HR1.out.below hV).sgVote hy, (HR1.out.below hV).sgVote hx⟩
                clear hj hx hy hlt
                refine wp_region_noPanic ?_
                refine wp_region_held_drew (S := fun w' => rowAt w' bC (oC + j * 23) 22 = some y.vote.cells ∧ rowAt w' bC (oC + i * 23) 22 = some x.vote.cells) (by kernel_rfl) (HRows.out _ hbw.drew) (fun hHeld => ?_)
                refine wpAnyH_takeD (some 71) (i := 0) (v := ?vh2_0) rfl rfl (by kernel_rfl) (by kernel_rfl) (by kernel_rfl) (fun _ _ _ h => h) (by rfl) ?hh2_0 (by assumption) ?_
                case hh2_0 => (intro wq hSw; (try dsimp only at hSw); go_simp; (try (with_reducible rfl)))
                go_frame
                refine wpAnyH_takeD (some 72) (i := 1) (v := ?vh2_1) rfl rfl (by kernel_rfl) (by kernel_rfl) (by kernel_rfl) (fun _ _ _ h => h) (by rfl) ?hh2_1 (by assumption) ?_
                case hh2_1 => (intro wq hSw; (try dsimp only at hSw); go_simp; (try (with_reducible rfl)))
                go_frame
                refine wpAnyH_takeD (some 73) (i := 2) (v := ?vh2_2) rfl rfl (by kernel_rfl) (by kernel_rfl) (by kernel_rfl) (fun _ _ _ h => h) (by rfl) ?hh2_2 (by assumption) ?_
                case hh2_2 => (intro wq hSw; (try dsimp only at hSw); go_simp; (try (with_reducible rfl)))
                go_frame
                refine wpAnyH_takeD (some 74) (i := 3) (v := ?vh2_3) rfl rfl (by kernel_rfl) (by kernel_rfl) (by kernel_rfl) (fun _ _ _ h => h) (by rfl) ?hh2_3 (by assumption) ?_
                case hh2_3 => (intro wq hSw; (try dsimp only at hSw); go_simp; (try (with_reducible rfl)))
                go_frame
                refine wpAnyH_takeD (some 75) (i := 4) (v := ?vh2_4) rfl rfl (by kernel_rfl) (by kernel_rfl) (by kernel_rfl) (fun _ _ _ h => h) (by rfl) ?hh2_4 (by assumption) ?_
                case hh2_4 => (intro wq hSw; (try dsimp only at hSw); go_simp; (try (with_reducible rfl)))
                go_frame
                refine wpAnyH_takeD (some 76) (i := 5) (v := ?vh2_5) rfl rfl (by kernel_rfl) (by kernel_rfl) (by kernel_rfl) (fun _ _ _ h => h) (by rfl) ?hh2_5 (by assumption) ?_
                case hh2_5 => (intro wq hSw; (try dsimp only at hSw); go_simp; (try (with_reducible rfl)))
                go_frame
                refine wpAnyH_takeD (some 77) (i := 6) (v := ?vh2_6) rfl rfl (by kernel_rfl) (by kernel_rfl) (by kernel_rfl) (fun _ _ _ h => h) (by rfl) ?hh2_6 (by assumption) ?_
                case hh2_6 => (intro wq hSw; (try dsimp only at hSw); go_simp; (try (with_reducible rfl)))
                go_frame
                refine wpAnyH_takeD (some 78) (i := 7) (v := ?vh2_7) rfl rfl (by kernel_rfl) (by kernel_rfl) (by kernel_rfl) (fun _ _ _ h => h) (by rfl) ?hh2_7 (by assumption) ?_
                case hh2_7 => (intro wq hSw; (try dsimp only at hSw); go_simp; (try (with_reducible rfl)))
                go_frame
                refine wpAnyH_takeD (some 79) (i := 8) (v := ?vh2_8) rfl rfl (by kernel_rfl) (by kernel_rfl) (by kernel_rfl) (fun _ _ _ h => h) (by rfl) ?hh2_8 (by assumption) ?_
                case hh2_8 => (intro wq hSw; (try dsimp only at hSw); go_simp; (try (with_reducible rfl)))
                go_frame
                refine wpAnyH_takeD (some 80) (i := 9) (v := ?vh2_9) rfl rfl (by kernel_rfl) (by kernel_rfl) (by kernel_rfl) (fun _ _ _ h => h) (by rfl) ?hh2_9 (by assumption) ?_
                case hh2_9 => (intro wq hSw; (try dsimp only at hSw); go_simp; (try (with_reducible rfl)))
                go_frame
                refine wpAnyH_takeD (some 81) (i := 10) (v := ?vh2_10) rfl rfl (by kernel_rfl) (by kernel_rfl) (by kernel_rfl) (fun _ _ _ h => h) (by rfl) ?hh2_10 (by assumption) ?_
                case hh2_10 => (intro wq hSw; (try dsimp only at hSw); go_simp; (try (with_reducible rfl)))
                go_frame
                refine wpAnyH_takeD (some 82) (i := 11) (v := ?vh2_11) rfl rfl (by kernel_rfl) (by kernel_rfl) (by kernel_rfl) (fun _ _ _ h => h) (by rfl) ?hh2_11 (by assumption) ?_
                case hh2_11 => (intro wq hSw; (try dsimp only at hSw); go_simp; (try (with_reducible rfl)))
                go_frame
                refine wpAnyH_takeD (some 83) (i := 12) (v := ?vh2_12) rfl rfl (by kernel_rfl) (by kernel_rfl) (by kernel_rfl) (fun _ _ _ h => h) (by rfl) ?hh2_12 (by assumption) ?_
                case hh2_12 => (intro wq hSw; (try dsimp only at hSw); go_simp; (try (with_reducible rfl)))
                go_frame
                refine wpAnyH_takeD (some 84) (i := 13) (v := ?vh2_13) rfl rfl (by kernel_rfl) (by kernel_rfl) (by kernel_rfl) (fun _ _ _ h => h) (by rfl) ?hh2_13 (by assumption) ?_
                case hh2_13 => (intro wq hSw; (try dsimp only at hSw); go_simp; (try (with_reducible rfl)))
                go_frame
                refine wpAnyH_ready (rs := [14]) (by kernel_rfl) (by simp) ?_
                refine AllReadyH.cons rfl (fun K hK => ?_) AllReadyH.nil
                go_simp
                refine (HLs.out _).mono ?_; rintro en w6 ⟨rfl, hb6⟩; have hbw6 := hbw.drew.trans (hb6.mono hbw.size)
                go_wp2_with fail
                refine hK.out _ _ (HRows.out _ hbw6) (fun hHeld => ?_)
                clear hK K
                try go_frame
                refine wpAnyH_takeD (some 86) (i := 15) (v := ?vh2_15) rfl rfl (by kernel_rfl) (by kernel_rfl) (by kernel_rfl) (fun _ _ _ h => h) (by rfl) ?hh2_15 (by assumption) ?_
                case hh2_15 => (intro wq hSw; (try dsimp only at hSw); go_simp; (try (with_reducible rfl)))
                go_frame
                refine wpAnyH_takeD (some 87) (i := 16) (v := ?vh2_16) rfl rfl (by kernel_rfl) (by kernel_rfl) (by kernel_rfl) (fun _ _ _ h => h) (by rfl) ?hh2_16 (by assumption) ?_
                case hh2_16 => (intro wq hSw; (try dsimp only at hSw); go_simp; (try (with_reducible rfl)))
                go_frame
                refine wpAnyH_done (by kernel_rfl) ?_ _
                refine NoPanic.normal ?_
                go_wp2_with fail
                go_roundw
                case rel => exact ⟨i + 1, by go_num, by omega, hbw6⟩
                case measure => simp [intOf]; omega
              · have dp : decide ((0 : Int) < (i : Int)) = false := by simp; omega
                have dp2 : decide (0 < i) = false := by simp; omega
                clear hx
                refine wp_region_noPanic ?_
                refine wp_region_held_drew (S := fun _ => True) (by kernel_rfl) (trivial) (fun hHeld => ?_)
                refine wpAnyH_takeD (some 71) (i := 0) (v := ?vh3_0) rfl rfl (by kernel_rfl) (by kernel_rfl) (by kernel_rfl) (fun _ _ _ h => h) (by rfl) ?hh3_0 (by assumption) ?_
                case hh3_0 => (intro wq hSw; (try dsimp only at hSw); go_simp; (try (with_reducible rfl)))
                go_frame
                refine wpAnyH_takeD (some 72) (i := 1) (v := ?vh3_1) rfl rfl (by kernel_rfl) (by kernel_rfl) (by kernel_rfl) (fun _ _ _ h => h) (by rfl) ?hh3_1 (by assumption) ?_
                case hh3_1 => (intro wq hSw; (try dsimp only at hSw); go_simp; (try (with_reducible rfl)))
                go_frame
                refine wpAnyH_takeD (some 73) (i := 2) (v := ?vh3_2) rfl rfl (by kernel_rfl) (by kernel_rfl) (by kernel_rfl) (fun _ _ _ h => h) (by rfl) ?hh3_2 (by assumption) ?_
                case hh3_2 => (intro wq hSw; (try dsimp only at hSw); go_simp; (try (with_reducible rfl)))
                go_frame
                refine wpAnyH_skipD (some 74) (i := 3) rfl rfl (by kernel_rfl) (by kernel_rfl) (by kernel_rfl) (fun _ _ _ h => h) (by rfl) (by assumption) ?_
                go_frame
                refine wpAnyH_skipD (some 75) (i := 4) rfl rfl (by kernel_rfl) (by kernel_rfl) (by kernel_rfl) (fun _ _ _ h => h) (by rfl) (by assumption) ?_
                go_frame
                refine wpAnyH_skipD (some 76) (i := 5) rfl rfl (by kernel_rfl) (by kernel_rfl) (by kernel_rfl) (fun _ _ _ h => h) (by rfl) (by assumption) ?_
                go_frame
                refine wpAnyH_skipD (some 77) (i := 6) rfl rfl (by kernel_rfl) (by kernel_rfl) (by kernel_rfl) (fun _ _ _ h => h) (by rfl) (by assumption) ?_
                go_frame
                refine wpAnyH_skipD (some 78) (i := 7) rfl rfl (by kernel_rfl) (by kernel_rfl) (by kernel_rfl) (fun _ _ _ h => h) (by rfl) (by assumption) ?_
                go_frame
                refine wpAnyH_skipD (some 79) (i := 8) rfl rfl (by kernel_rfl) (by kernel_rfl) (by kernel_rfl) (fun _ _ _ h => h) (by rfl) (by assumption) ?_
                go_frame
                refine wpAnyH_skipD (some 80) (i := 9) rfl rfl (by kernel_rfl) (by kernel_rfl) (by kernel_rfl) (fun _ _ _ h => h) (by rfl) (by assumption) ?_
                go_frame
                refine wpAnyH_skipD (some 81) (i := 10) rfl rfl (by kernel_rfl) (by kernel_rfl) (by kernel_rfl) (fun _ _ _ h => h) (by rfl) (by assumption) ?_
                go_frame
                refine wpAnyH_skipD (some 82) (i := 11) rfl rfl (by kernel_rfl) (by kernel_rfl) (by kernel_rfl) (fun _ _ _ h => h) (by rfl) (by assumption) ?_
                go_frame
                refine wpAnyH_skipD (some 83) (i := 12) rfl rfl (by kernel_rfl) (by kernel_rfl) (by kernel_rfl) (fun _ _ _ h => h) (by rfl) (by assumption) ?_
                go_frame
                refine wpAnyH_skipD (some 84) (i := 13) rfl rfl (by kernel_rfl) (by kernel_rfl) (by kernel_rfl) (fun _ _ _ h => h) (by rfl) (by assumption) ?_
                go_frame
                refine wpAnyH_skipD (some 85) (i := 14) rfl rfl (by kernel_rfl) (by kernel_rfl) (by kernel_rfl) (fun _ _ _ h => h) (by rfl) (by assumption) ?_
                go_frame
                refine wpAnyH_skipD (some 86) (i := 15) rfl rfl (by kernel_rfl) (by kernel_rfl) (by kernel_rfl) (fun _ _ _ h => h) (by rfl) (by assumption) ?_
                go_frame
                refine wpAnyH_takeD (some 87) (i := 16) (v := ?vh3_16) rfl rfl (by kernel_rfl) (by kernel_rfl) (by kernel_rfl) (fun _ _ _ h => h) (by rfl) ?hh3_16 (by assumption) ?_
                case hh3_16 => (intro wq hSw; (try dsimp only at hSw); go_simp; (try (with_reducible rfl)))
                go_frame
                refine wpAnyH_done (by kernel_rfl) ?_ _
                refine NoPanic.normal ?_
                go_wp2_with fail
                go_roundw
                case rel => exact ⟨i + 1, by go_num, by omega, hbw.drew⟩
                case measure => simp [intOf]; omega
            · obtain rfl : nc = i := by omega
              have di : decide ((nc : Int) < (nc : Int)) = false := by simp
              go_wp2
              go_loopw [10] (fun iv wr => CntRel8 n' w1 iv wr) (fun iv _ => n' - (intOf iv).toNat)
              case atStart => exact ⟨0, rfl, Nat.zero_le _, hbw⟩
              case round =>
                clear hbw
                obtain ⟨i, rfl, hin2, hbw⟩ := hrel
                by_cases hi2 : i < n'
                · have di2 : decide ((i : Int) < (n' : Int)) = true := by simp; omega
                  have i0 : (0 : Int) ≤ (i : Int) := by omega
                  have i1 : (i : Int) < (n' : Int) := by omega
                  obtain ⟨s, hs⟩ : ∃ s, l[i]? = some s := ⟨_, List.getElem?_eq_getElem (by rw [HN.out]; exact hi2)⟩
                  obtain ⟨b, o, rfl, _, _⟩ := HR.out.cells (by intro e; have := flat_length sgc 23 l (sgc_len l); rw [e, HN.out] at this; simp at this; omega)
                  have hsm : Hid (s ∈ l) := List.mem_of_getElem? hs
                  have HS := Lib.hid hs
                  clear hs
                  go_wp2
                  go_loopw [11, 12] (fun fv kv wr => DomRel C s nc w1 fv kv wr) (fun _ kv _ => nc - (intOf kv).toNat)
                  case atStart => exact ⟨0, false, rfl, rfl, Nat.zero_le _, ⟨fun h => (by cases h), fun ⟨_, _, h, _⟩ => (by omega)⟩, hbw⟩
                  case round =>
                    clear hbw
                    obtain ⟨k, fd, rfl, rfl, hkn, hf, hbw⟩ := hrel
                    have HF := Lib.hid hf
                    clear hf
                    by_cases hk : k < nc
                    · have dk : decide ((k : Int) < (nc : Int)) = true := by simp; omega
                      have k0 : (0 : Int) ≤ (k : Int) := by omega
                      have k1 : (k : Int) < (nc : Int) := by omega
                      obtain ⟨x, hx⟩ : ∃ x, C[k]? = some x := ⟨_, List.getElem?_eq_getElem (by rw [HNc.out]; exact hk)⟩
                      obtain ⟨bC, oC, rfl, _, _⟩ := HR1.out.cells (by intro e; have := flat_length sgc 23 C (sgc_len C); rw [e, HNc.out] at this; simp at this; omega)
                      have HX := Lib.hid hx
                      have hxm : Hid (x ∈ C) := List.mem_of_getElem? hx
                      clear hx
                      go_upto_region 26 with fail
                      cases fd with
                      | true =>
                        refine wp_region_noPanic ?_
                        refine wp_region_held_drew (S := fun _ => True) (by kernel_rfl) (trivial) (fun hHeld => ?_)
                        refine wpAnyH_takeD (some 100) (i := 0) (v := ?vh4_0) rfl rfl (by kernel_rfl) (by kernel_rfl) (by kernel_rfl) (fun _ _ _ h => h) (by rfl) ?hh4_0 (by assumption) ?_
                        case hh4_0 => (intro wq hSw; (try dsimp only at hSw); go_simp; (try (with_reducible rfl)))
                        go_frame
                        refine wpAnyH_takeD (some 101) (i := 1) (v := ?vh4_1) rfl rfl (by kernel_rfl) (by kernel_rfl) (by kernel_rfl) (fun _ _ _ h => h) (by rfl) ?hh4_1 (by assumption) ?_
                        case hh4_1 => (intro wq hSw; (try dsimp only at hSw); go_simp; (try (with_reducible rfl)))
                        go_frame
                        refine wpAnyH_skipD (some 102) (i := 2) rfl rfl (by kernel_rfl) (by kernel_rfl) (by kernel_rfl) (fun _ _ _ h => h) (by rfl) (by assumption) ?_
                        go_frame
                        refine wpAnyH_skipD (some 103) (i := 3) rfl rfl (by kernel_rfl) (by kernel_rfl) (by kernel_rfl) (fun _ _ _ h => h) (by rfl) (by assumption) ?_
                        go_frame
                        refine wpAnyH_skipD (some 104) (i := 4) rfl rfl (by kernel_rfl) (by kernel_rfl) (by kernel_rfl) (fun _ _ _ h => h) (by rfl) (by assumption) ?_
                        go_frame
                        refine wpAnyH_skipD (some 105) (i := 5) rfl rfl (by kernel_rfl) (by kernel_rfl) (by kernel_rfl) (fun _ _ _ h => h) (by rfl) (by assumption) ?_
                        go_frame
                        refine wpAnyH_skipD (some 106) (i := 6) rfl rfl (by kernel_rfl) (by kernel_rfl) (by kernel_rfl) (fun _ _ _ h => h) (by rfl) (by assumption) ?_
                        go_frame
                        refine wpAnyH_skipD (some 107) (i := 7) rfl rfl (by kernel_rfl) (by kernel_rfl) (by kernel_rfl) (fun _ _ _ h => h) (by rfl) (by assumption) ?_
                        go_frame
                        refine wpAnyH_skipD (some 108) (i := 8) rfl rfl (by kernel_rfl) (by kernel_rfl) (by kernel_rfl) (fun _ _ _ h => h) (by rfl) (by assumption) ?_
                        go_frame
                        refine wpAnyH_skipD (some 109) (i := 9) rfl rfl (by kernel_rfl) (by kernel_rfl) (by kernel_rfl) (fun _ _ _ h => h) (by rfl) (by assumption) ?_
                        go_frame
                        refine wpAnyH_skipD (some 110) (i := 10) rfl rfl (by kernel_rfl) (by kernel_rfl) (by kernel_rfl) (fun _ _ _ h => h) (by rfl) (by assumption) ?_
                        go_frame
                        refine wpAnyH_skipD (some 111) (i := 11) rfl rfl (by kernel_rfl) (by kernel_rfl) (by kernel_rfl) (fun _ _ _ h => h) (by rfl) (by assumption) ?_
                        go_frame
                        refine wpAnyH_skipD (some 112) (i := 12) rfl rfl (by kernel_rfl) (by kernel_rfl) (by kernel_rfl) (fun _ _ _ h => h) (by rfl) (by assumption) ?_
                        go_frame
                        refine wpAnyH_skipD (some 113) (i := 13) rfl rfl (by kernel_rfl) (by kernel_rfl) (by kernel_rfl) (fun _ _ _ h => h) (by rfl) (by assumption) ?_
                        go_frame
                        refine wpAnyH_skipD (some 114) (i := 14) rfl rfl (by kernel_rfl) (by kernel_rfl) (by kernel_rfl) (fun _ _ _ h => h) (by rfl) (by assumption) ?_
                        go_frame
                        refine wpAnyH_skipD (some 115) (i := 15) rfl rfl (by kernel_rfl) (by kernel_rfl) (by kernel_rfl) (fun _ _ _ h => h) (by rfl) (by assumption) ?_
                        go_frame
                        refine wpAnyH_skipD (some 116) (i := 16) rfl rfl (by kernel_rfl) (by kernel_rfl) (by kernel_rfl) (fun _ _ _ h => h) (by rfl) (by assumption) ?_
                        go_frame
                        refine wpAnyH_skipD (some 117) (i := 17) rfl rfl (by kernel_rfl) (by kernel_rfl) (by kernel_rfl) (fun _ _ _ h => h) (by rfl) (by assumption) ?_
                        go_frame
                        refine wpAnyH_skipD (some 118) (i := 18) rfl rfl (by kernel_rfl) (by kernel_rfl) (by kernel_rfl) (fun _ _ _ h => h) (by rfl) (by assumption) ?_
                        go_frame
                        refine wpAnyH_skipD (some 119) (i := 19) rfl rfl (by kernel_rfl) (by kernel_rfl) (by kernel_rfl) (fun _ _ _ h => h) (by rfl) (by assumption) ?_
                        go_frame
                        refine wpAnyH_skipD (some 120) (i := 20) rfl rfl (by kernel_rfl) (by kernel_rfl) (by kernel_rfl) (fun _ _ _ h => h) (by rfl) (by assumption) ?_
                        go_frame
                        refine wpAnyH_skipD (some 121) (i := 21) rfl rfl (by kernel_rfl) (by kernel_rfl) (by kernel_rfl) (fun _ _ _ h => h) (by rfl) (by assumption) ?_
                        go_frame
                        refine wpAnyH_skipD (some 122) (i := 22) rfl rfl (by kernel_rfl) (by kernel_rfl) (by kernel_rfl) (fun _ _ _ h => h) (by rfl) (by assumption) ?_
                        go_frame
                        refine wpAnyH_skipD (some 123) (i := 23) rfl rfl (by kernel_rfl) (by kernel_rfl) (by kernel_rfl) (fun _ _ _ h => h) (by rfl) (by assumption) ?_
                        go_frame
                        refine wpAnyH_skipD (some 124) (i := 24) rfl rfl (by kernel_rfl) (by kernel_rfl) (by kernel_rfl) (fun _ _ _ h => h) (by rfl) (by assumption) ?_
                        go_frame
                        refine wpAnyH_skipD (some 125) (i := 25) rfl rfl (by kernel_rfl) (by kernel_rfl) (by kernel_rfl) (fun _ _ _ h => h) (by rfl) (by assumption) ?_
                        go_frame
                        refine wpAnyH_skipD (some 126) (i := 26) rfl rfl (by kernel_rfl) (by kernel_rfl) (by kernel_rfl) (fun _ _ _ h => h) (by rfl) (by assumption) ?_
                        go_frame
                        refine wpAnyH_skipD (some 127) (i := 27) rfl rfl (by kernel_rfl) (by kernel_rfl) (by kernel_rfl) (fun _ _ _ h => h) (by rfl) (by assumption) ?_
                        go_frame
                        refine wpAnyH_takeD (some 128) (i := 28) (v := ?vh4_28) rfl rfl (by kernel_rfl) (by kernel_rfl) (by kernel_rfl) (fun _ _ _ h => h) (by rfl) ?hh4_28 (by assumption) ?_
                        case hh4_28 => (intro wq hSw; (try dsimp only at hSw); go_simp; (try (with_reducible rfl)))
                        go_frame
                        refine wpAnyH_takeD (some 11) (i := 29) (v := ?vh4_29) rfl rfl (by kernel_rfl) (by kernel_rfl) (by kernel_rfl) (fun _ _ _ h => h) (by rfl) ?hh4_29 (by assumption) ?_
                        case hh4_29 => (intro wq hSw; (try dsimp only at hSw); go_simp; (try (with_reducible rfl)))
                        go_frame
                        refine wpAnyH_done (by kernel_rfl) ?_ _
                        refine NoPanic.normal ?_
                        go_wp2_with fail
                        go_roundw
                        case rel => exact ⟨k + 1, _, by go_num, rfl, by omega, (by rw [domUpto_next HX.out]; exact ⟨fun _ => .inl (HF.out.1 rfl), fun _ => rfl⟩), hbw.drew⟩
                        case measure => simp [intOf]; omega
                      | false =>
                        obtain ⟨q, hq⟩ : ∃ q, q = decide (x.vote = s.vote) := ⟨_, rfl⟩
                        have e1 : ∀ W, (Op.equalIn 10000 41 (.agg x.vote.cells) (.agg s.vote.cells)).run Try.prog W = .ok q W := fun W => by rw [hq]; exact eqVt x.vote s.vote W
                        have HQ := Lib.hid hq
                        clear hq
                        have HRows : Hid (∀ V, Below w1.heap.size w1 V → rowAt V bC (oC + k * 23) 22 = some x.vote.cells ∧ rowAt V b (o + i * 23) 22 = some s.vote.cells ∧ V.cell? ⟨bC, oC + k * 23 + 22, none⟩ = some (.slice x.A x.sig.length x.cap) ∧ V.cell? ⟨b, o + i * 23 + 22, none⟩ = some (.slice s.A s.sig.length s.cap)
                            ∧ (convert 23 9 (.slice x.A x.sig.length x.cap)).run Try.prog V = .ok (.string ⟨x.sig.toArray⟩) V ∧ (convert 23 9 (.slice s.A s.sig.length s.cap)).run Try.prog V = .ok (.string ⟨s.sig.toArray⟩) V) := fun V hV =>
                          have hb := hb1.trans (hV.mono hb1.size)
                          ⟨(HR1.out.below hV).sgVote HX.out, (HR.out.below hb).sgVote HS.out, (HR1.out.below hV).sgSig HX.out, (HR.out.below hb).sgSig HS.out, conv_str V _ _ _ _ ((HK1.out x hxm.out).1.2.1.below hV), conv_str V _ _ _ _ ((HOk.out s hsm.out).1.2.1.below hb)⟩
                        cases q with
                        | false =>
                          refine wp_region_noPanic ?_
                          refine wp_region_held_drew (S := fun w' => rowAt w' bC (oC + k * 23) 22 = some x.vote.cells ∧ rowAt w' b (o + i * 23) 22 = some s.vote.cells ∧ w'.cell? ⟨bC, oC + k * 23 + 22, none⟩ = some (.slice x.A x.sig.length x.cap) ∧ w'.cell? ⟨b, o + i * 23 + 22, none⟩ = some (.slice s.A s.sig.length s.cap) ∧ (convert 23 9 (.slice x.A x.sig.length x.cap)).run Try.prog w' = .ok (.string ⟨x.sig.toArray⟩) w' ∧ (convert 23 9 (.slice s.A s.sig.length s.cap)).run Try.prog w' = .ok (.string ⟨s.sig.toArray⟩) w') (by kernel_rfl) (HRows.out _ hbw.drew) (fun hHeld => ?_)
                          refine wpAnyH_takeD (some 100) (i := 0) (v := ?vh5_0) rfl rfl (by kernel_rfl) (by kernel_rfl) (by kernel_rfl) (fun _ _ _ h => h) (by rfl) ?hh5_0 (by assumption) ?_
                          case hh5_0 => (intro wq hSw; (try dsimp only at hSw); go_simp; (try (with_reducible rfl)))
                          go_frame
                          refine wpAnyH_takeD (some 101) (i := 1) (v := ?vh5_1) rfl rfl (by kernel_rfl) (by kernel_rfl) (by kernel_rfl) (fun _ _ _ h => h) (by rfl) ?hh5_1 (by assumption) ?_
                          case hh5_1 => (intro wq hSw; (try dsimp only at hSw); go_simp; (try (with_reducible rfl)))
                          go_frame
                          refine wpAnyH_takeD (some 102) (i := 2) (v := ?vh5_2) rfl rfl (by kernel_rfl) (by kernel_rfl) (by kernel_rfl) (fun _ _ _ h => h) (by rfl) ?hh5_2 (by assumption) ?_
                          case hh5_2 => (intro wq hSw; (try dsimp only at hSw); go_simp; (try (with_reducible rfl)))
                          go_frame
                          refine wpAnyH_takeD (some 103) (i := 3) (v := ?vh5_3) rfl rfl (by kernel_rfl) (by kernel_rfl) (by kernel_rfl) (fun _ _ _ h => h) (by rfl) ?hh5_3 (by assumption) ?_
                          case hh5_3 => (intro wq hSw; (try dsimp only at hSw); go_simp; (try (with_reducible rfl)))
                          go_frame
                          refine wpAnyH_takeD (some 104) (i := 4) (v := ?vh5_4) rfl rfl (by kernel_rfl) (by kernel_rfl) (by kernel_rfl) (fun _ _ _ h => h) (by rfl) ?hh5_4 (by assumption) ?_
                          case hh5_4 => (intro wq hSw; (try dsimp only at hSw); go_simp; (try (with_reducible rfl)))
                          go_frame
                          refine wpAnyH_takeD (some 105) (i := 5) (v := ?vh5_5) rfl rfl (by kernel_rfl) (by kernel_rfl) (by kernel_rfl) (fun _ _ _ h => h) (by rfl) ?hh5_5 (by assumption) ?_
                          case hh5_5 => (intro wq hSw; (try dsimp only at hSw); go_simp; (try (with_reducible rfl)))
                          go_frame
                          refine wpAnyH_takeD (some 106) (i := 6) (v := ?vh5_6) rfl rfl (by kernel_rfl) (by kernel_rfl) (by kernel_rfl) (fun _ _ _ h => h) (by rfl) ?hh5_6 (by assumption) ?_
                          case hh5_6 => (intro wq hSw; (try dsimp only at hSw); go_simp; (try (with_reducible rfl)))
                          go_frame
                          refine wpAnyH_takeD (some 107) (i := 7) (v := ?vh5_7) rfl rfl (by kernel_rfl) (by kernel_rfl) (by kernel_rfl) (fun _ _ _ h => h) (by rfl) ?hh5_7 (by assumption) ?_
                          case hh5_7 => (intro wq hSw; (try dsimp only at hSw); go_simp; (try (with_reducible rfl)))
                          go_frame
                          refine wpAnyH_takeD (some 108) (i := 8) (v := ?vh5_8) rfl rfl (by kernel_rfl) (by kernel_rfl) (by kernel_rfl) (fun _ _ _ h => h) (by rfl) ?hh5_8 (by assumption) ?_
                          case hh5_8 => (intro wq hSw; (try dsimp only at hSw); go_simp; (try (with_reducible rfl)))
                          go_frame
                          refine wpAnyH_takeD (some 109) (i := 9) (v := ?vh5_9) rfl rfl (by kernel_rfl) (by kernel_rfl) (by kernel_rfl) (fun _ _ _ h => h) (by rfl) ?hh5_9 (by assumption) ?_
                          case hh5_9 => (intro wq hSw; (try dsimp only at hSw); go_simp; (try (with_reducible rfl)))
                          go_frame
                          refine wpAnyH_takeD (some 110) (i := 10) (v := ?vh5_10) rfl rfl (by kernel_rfl) (by kernel_rfl) (by kernel_rfl) (fun _ _ _ h => h) (by rfl) ?hh5_10 (by assumption) ?_
                          case hh5_10 => (intro wq hSw; (try dsimp only at hSw); go_simp; (try (with_reducible rfl)))
                          go_frame
                          refine wpAnyH_takeD (some 111) (i := 11) (v := ?vh5_11) rfl rfl (by kernel_rfl) (by kernel_rfl) (by kernel_rfl) (fun _ _ _ h => h) (by rfl) ?hh5_11 (by assumption) ?_
                          case hh5_11 => (intro wq hSw; (try dsimp only at hSw); go_simp; (try (with_reducible rfl)))
                          go_frame
                          refine wpAnyH_takeD (some 112) (i := 12) (v := ?vh5_12) rfl rfl (by kernel_rfl) (by kernel_rfl) (by kernel_rfl) (fun _ _ _ h => h) (by rfl) ?hh5_12 (by assumption) ?_
                          case hh5_12 => (intro wq hSw; (try dsimp only at hSw); go_simp; (try (with_reducible rfl)))
                          go_frame
                          refine wpAnyH_takeD (some 113) (i := 13) (v := ?vh5_13) rfl rfl (by kernel_rfl) (by kernel_rfl) (by kernel_rfl) (fun _ _ _ h => h) (by rfl) ?hh5_13 (by assumption) ?_
                          case hh5_13 => (intro wq hSw; (try dsimp only at hSw); go_simp; (try (with_reducible rfl)))
                          go_frame
                          refine wpAnyH_skipD (some 114) (i := 14) rfl rfl (by kernel_rfl) (by kernel_rfl) (by kernel_rfl) (fun _ _ _ h => h) (by rfl) (by assumption) ?_
                          go_frame
                          refine wpAnyH_skipD (some 115) (i := 15) rfl rfl (by kernel_rfl) (by kernel_rfl) (by kernel_rfl) (fun _ _ _ h => h) (by rfl) (by assumption) ?_
                          go_frame
                          refine wpAnyH_skipD (some 116) (i := 16) rfl rfl (by kernel_rfl) (by kernel_rfl) (by kernel_rfl) (fun _ _ _ h => h) (by rfl) (by assumption) ?_
                          go_frame
                          refine wpAnyH_skipD (some 117) (i := 17) rfl rfl (by kernel_rfl) (by kernel_rfl) (by kernel_rfl) (fun _ _ _ h => h) (by rfl) (by assumption) ?_
                          go_frame
                          refine wpAnyH_skipD (some 118) (i := 18) rfl rfl (by kernel_rfl) (by kernel_rfl) (by kernel_rfl) (fun _ _ _ h => h) (by rfl) (by assumption) ?_
                          go_frame
                          refine wpAnyH_skipD (some 119) (i := 19) rfl rfl (by kernel_rfl) (by kernel_rfl) (by kernel_rfl) (fun _ _ _ h => h) (by rfl) (by assumption) ?_
                          go_frame
                          refine wpAnyH_skipD (some 120) (i := 20) rfl rfl (by kernel_rfl) (by kernel_rfl) (by kernel_rfl) (fun _ _ _ h => h) (by rfl) (by assumption) ?_
                          go_frame
                          refine wpAnyH_skipD (some 121) (i := 21) rfl rfl (by kernel_rfl) (by kernel_rfl) (by kernel_rfl) (fun _ _ _ h => h) (by rfl) (by assumption) ?_
                          go_frame
                          refine wpAnyH_skipD (some 122) (i := 22) rfl rfl (by kernel_rfl) (by kernel_rfl) (by kernel_rfl) (fun _ _ _ h => h) (by rfl) (by assumption) ?_
                          go_frame
                          refine wpAnyH_skipD (some 123) (i := 23) rfl rfl (by kernel_rfl) (by kernel_rfl) (by kernel_rfl) (fun _ _ _ h => h) (by rfl) (by assumption) ?_
                          go_frame
                          refine wpAnyH_skipD (some 124) (i := 24) rfl rfl (by kernel_rfl) (by kernel_rfl) (by kernel_rfl) (fun _ _ _ h => h) (by rfl) (by assumption) ?_
                          go_frame
                          refine wpAnyH_skipD (some 125) (i := 25) rfl rfl (by kernel_rfl) (by kernel_rfl) (by kernel_rfl) (fun _ _ _ h => h) (by rfl) (by assumption) ?_
                          go_frame
                          refine wpAnyH_skipD (some 126) (i := 26) rfl rfl (by kernel_rfl) (by kernel_rfl) (by kernel_rfl) (fun _ _ _ h => h) (by rfl) (by assumption) ?_
                          go_frame
                          refine wpAnyH_takeD (some 127) (i := 27) (v := ?vh5_27) rfl rfl (by kernel_rfl) (by kernel_rfl) (by kernel_rfl) (fun _ _ _ h => h) (by rfl) ?hh5_27 (by assumption) ?_
                          case hh5_27 => (intro wq hSw; (try dsimp only at hSw); go_simp; (try (with_reducible rfl)))
                          go_frame
                          refine wpAnyH_takeD (some 128) (i := 28) (v := ?vh5_28) rfl rfl (by kernel_rfl) (by kernel_rfl) (by kernel_rfl) (fun _ _ _ h => h) (by rfl) ?hh5_28 (by assumption) ?_
                          case hh5_28 => (intro wq hSw; (try dsimp only at hSw); go_simp; (try (with_reducible rfl)))
                          go_frame
                          refine wpAnyH_takeD (some 11) (i := 29) (v := ?vh5_29) rfl rfl (by kernel_rfl) (by kernel_rfl) (by kernel_rfl) (fun _ _ _ h => h) (by rfl) ?hh5_29 (by assumption) ?_
                          case hh5_29 => (intro wq hSw; (try dsimp only at hSw); go_simp; (try (with_reducible rfl)))
                          go_frame
                          refine wpAnyH_done (by kernel_rfl) ?_ _
                          refine NoPanic.normal ?_
                          go_wp2_with fail
                          go_roundw
                          case rel => exact ⟨k + 1, _, by go_num, rfl, by omega, (by rw [domUpto_next HX.out]; exact ⟨fun h => (by cases h), fun h => h.elim (fun h => HF.out.2 h) (fun h => absurd h.1 (of_decide_eq_false HQ.out.symm))⟩), hbw.drew⟩
                          case measure => simp [intOf]; omega
                        | true =>
                          refine wp_region_noPanic ?_
                          refine wp_region_held_drew (S := fun w' => rowAt w' bC (oC + k * 23) 22 = some x.vote.cells ∧ rowAt w' b (o + i * 23) 22 = some s.vote.cells ∧ w'.cell? ⟨bC, oC + k * 23 + 22, none⟩ = some (.slice x.A x.sig.length x.cap) ∧ w'.cell? ⟨b, o + i * 23 + 22, none⟩ = some (.slice s.A s.sig.length s.cap) ∧ (convert 23 9 (.slice x.A x.sig.length x.cap)).run Try.prog w' = .ok (.string ⟨x.sig.toArray⟩) w' ∧ (convert 23 9 (.slice s.A s.sig.length s.cap)).run Try.prog w' = .ok (.string ⟨s.sig.toArray⟩) w') (by kernel_rfl) (HRows.out _ hbw.drew) (fun hHeld => ?_)
                          refine wpAnyH_takeD (some 100) (i := 0) (v := ?vh6_0) rfl rfl (by kernel_rfl) (by kernel_rfl) (by kernel_rfl) (fun _ _ _ h => h) (by rfl) ?hh6_0 (by assumption) ?_
                          case hh6_0 => (intro wq hSw; (try dsimp only at hSw); go_simp; (try (with_reducible rfl)))
                          go_frame
                          refine wpAnyH_takeD (some 101) (i := 1) (v := ?vh6_1) rfl rfl (by kernel_rfl) (by kernel_rfl) (by kernel_rfl) (fun _ _ _ h => h) (by rfl) ?hh6_1 (by assumption) ?_
                          case hh6_1 => (intro wq hSw; (try dsimp only at hSw); go_simp; (try (with_reducible rfl)))
                          go_frame
                          refine wpAnyH_takeD (some 102) (i := 2) (v := ?vh6_2) rfl rfl (by kernel_rfl) (by kernel_rfl) (by kernel_rfl) (fun _ _ _ h => h) (by rfl) ?hh6_2 (by assumption) ?_
                          case hh6_2 => (intro wq hSw; (try dsimp only at hSw); go_simp; (try (with_reducible rfl)))
                          go_frame
                          refine wpAnyH_takeD (some 103) (i := 3) (v := ?vh6_3) rfl rfl (by kernel_rfl) (by kernel_rfl) (by kernel_rfl) (fun _ _ _ h => h) (by rfl) ?hh6_3 (by assumption) ?_
                          case hh6_3 => (intro wq hSw; (try dsimp only at hSw); go_simp; (try (with_reducible rfl)))
                          go_frame
                          refine wpAnyH_takeD (some 104) (i := 4) (v := ?vh6_4) rfl rfl (by kernel_rfl) (by kernel_rfl) (by kernel_rfl) (fun _ _ _ h => h) (by rfl) ?hh6_4 (by assumption) ?_
                          case hh6_4 => (intro wq hSw; (try dsimp only at hSw); go_simp; (try (with_reducible rfl)))
                          go_frame
                          refine wpAnyH_takeD (some 105) (i := 5) (v := ?vh6_5) rfl rfl (by kernel_rfl) (by kernel_rfl) (by kernel_rfl) (fun _ _ _ h => h) (by rfl) ?hh6_5 (by assumption) ?_
                          case hh6_5 => (intro wq hSw; (try dsimp only at hSw); go_simp; (try (with_reducible rfl)))
                          go_frame
                          refine wpAnyH_takeD (some 106) (i := 6) (v := ?vh6_6) rfl rfl (by kernel_rfl) (by kernel_rfl) (by kernel_rfl) (fun _ _ _ h => h) (by rfl) ?hh6_6 (by assumption) ?_
                          case hh6_6 => (intro wq hSw; (try dsimp only at hSw); go_simp; (try (with_reducible rfl)))
                          go_frame
                          refine wpAnyH_takeD (some 107) (i := 7) (v := ?vh6_7) rfl rfl (by kernel_rfl) (by kernel_rfl) (by kernel_rfl) (fun _ _ _ h => h) (by rfl) ?hh6_7 (by assumption) ?_
                          case hh6_7 => (intro wq hSw; (try dsimp only at hSw); go_simp; (try (with_reducible rfl)))
                          go_frame
                          refine wpAnyH_takeD (some 108) (i := 8) (v := ?vh6_8) rfl rfl (by kernel_rfl) (by kernel_rfl) (by kernel_rfl) (fun _ _ _ h => h) (by rfl) ?hh6_8 (by assumption) ?_
                          case hh6_8 => (intro wq hSw; (try dsimp only at hSw); go_simp; (try (with_reducible rfl)))
                          go_frame
                          refine wpAnyH_takeD (some 109) (i := 9) (v := ?vh6_9) rfl rfl (by kernel_rfl) (by kernel_rfl) (by kernel_rfl) (fun _ _ _ h => h) (by rfl) ?hh6_9 (by assumption) ?_
                          case hh6_9 => (intro wq hSw; (try dsimp only at hSw); go_simp; (try (with_reducible rfl)))
                          go_frame
                          refine wpAnyH_takeD (some 110) (i := 10) (v := ?vh6_10) rfl rfl (by kernel_rfl) (by kernel_rfl) (by kernel_rfl) (fun _ _ _ h => h) (by rfl) ?hh6_10 (by assumption) ?_
                          case hh6_10 => (intro wq hSw; (try dsimp only at hSw); go_simp; (try (with_reducible rfl)))
                          go_frame
                          refine wpAnyH_takeD (some 111) (i := 11) (v := ?vh6_11) rfl rfl (by kernel_rfl) (by kernel_rfl) (by kernel_rfl) (fun _ _ _ h => h) (by rfl) ?hh6_11 (by assumption) ?_
                          case hh6_11 => (intro wq hSw; (try dsimp only at hSw); go_simp; (try (with_reducible rfl)))
                          go_frame
                          refine wpAnyH_takeD (some 112) (i := 12) (v := ?vh6_12) rfl rfl (by kernel_rfl) (by kernel_rfl) (by kernel_rfl) (fun _ _ _ h => h) (by rfl) ?hh6_12 (by assumption) ?_
                          case hh6_12 => (intro wq hSw; (try dsimp only at hSw); go_simp; (try (with_reducible rfl)))
                          go_frame
                          refine wpAnyH_takeD (some 113) (i := 13) (v := ?vh6_13) rfl rfl (by kernel_rfl) (by kernel_rfl) (by kernel_rfl) (fun _ _ _ h => h) (by rfl) ?hh6_13 (by assumption) ?_
                          case hh6_13 => (intro wq hSw; (try dsimp only at hSw); go_simp; (try (with_reducible rfl)))
                          go_frame
                          refine wpAnyH_takeD (some 114) (i := 14) (v := ?vh6_14) rfl rfl (by kernel_rfl) (by kernel_rfl) (by kernel_rfl) (fun _ _ _ h => h) (by rfl) ?hh6_14 (by assumption) ?_
                          case hh6_14 => (intro wq hSw; (try dsimp only at hSw); go_simp; (try (with_reducible rfl)))
                          go_frame
                          refine wpAnyH_takeD (some 115) (i := 15) (v := ?vh6_15) rfl rfl (by kernel_rfl) (by kernel_rfl) (by kernel_rfl) (fun _ _ _ h => h) (by rfl) ?hh6_15 (by assumption) ?_
                          case hh6_15 => (intro wq hSw; (try dsimp only at hSw); go_simp; (try (with_reducible rfl)))
                          go_frame
                          refine wpAnyH_takeD (some 116) (i := 16) (v := ?vh6_16) rfl rfl (by kernel_rfl) (by kernel_rfl) (by kernel_rfl) (fun _ _ _ h => h) (by rfl) ?hh6_16 (by assumption) ?_
                          case hh6_16 => (intro wq hSw; (try dsimp only at hSw); go_simp; (try (with_reducible rfl)))
                          go_frame
                          refine wpAnyH_takeD (some 117) (i := 17) (v := ?vh6_17) rfl rfl (by kernel_rfl) (by kernel_rfl) (by kernel_rfl) (fun _ _ _ h => h) (by rfl) ?hh6_17 (by assumption) ?_
                          case hh6_17 => (intro wq hSw; (try dsimp only at hSw); go_simp; (try (with_reducible rfl)))
                          go_frame
                          refine wpAnyH_takeD (some 118) (i := 18) (v := ?vh6_18) rfl rfl (by kernel_rfl) (by kernel_rfl) (by kernel_rfl) (fun _ _ _ h => h) (by rfl) ?hh6_18 (by assumption) ?_
                          case hh6_18 => (intro wq hSw; (try dsimp only at hSw); go_simp; (try (with_reducible rfl)))
                          go_frame
                          refine wpAnyH_takeD (some 119) (i := 19) (v := ?vh6_19) rfl rfl (by kernel_rfl) (by kernel_rfl) (by kernel_rfl) (fun _ _ _ h => h) (by rfl) ?hh6_19 (by assumption) ?_
                          case hh6_19 => (intro wq hSw; (try dsimp only at hSw); go_simp; (try (with_reducible rfl)))
                          go_frame
                          refine wpAnyH_takeD (some 120) (i := 20) (v := ?vh6_20) rfl rfl (by kernel_rfl) (by kernel_rfl) (by kernel_rfl) (fun _ _ _ h => h) (by rfl) ?hh6_20 (by assumption) ?_
                          case hh6_20 => (intro wq hSw; (try dsimp only at hSw); go_simp; (try (with_reducible rfl)))
                          go_frame
                          refine wpAnyH_takeD (some 121) (i := 21) (v := ?vh6_21) rfl rfl (by kernel_rfl) (by kernel_rfl) (by kernel_rfl) (fun _ _ _ h => h) (by rfl) ?hh6_21 (by assumption) ?_
                          case hh6_21 => (intro wq hSw; (try dsimp only at hSw); go_simp; (try (with_reducible rfl)))
                          go_frame
                          refine wpAnyH_takeD (some 122) (i := 22) (v := ?vh6_22) rfl rfl (by kernel_rfl) (by kernel_rfl) (by kernel_rfl) (fun _ _ _ h => h) (by rfl) ?hh6_22 (by assumption) ?_
                          case hh6_22 => (intro wq hSw; (try dsimp only at hSw); go_simp; (try (with_reducible rfl)))
                          go_frame
                          refine wpAnyH_takeD (some 123) (i := 23) (v := ?vh6_23) rfl rfl (by kernel_rfl) (by kernel_rfl) (by kernel_rfl) (fun _ _ _ h => h) (by rfl) ?hh6_23 (by assumption) ?_
                          case hh6_23 => (intro wq hSw; (try dsimp only at hSw); go_simp; (try (with_reducible rfl)))
                          go_frame
                          refine wpAnyH_takeD (some 124) (i := 24) (v := ?vh6_24) rfl rfl (by kernel_rfl) (by kernel_rfl) (by kernel_rfl) (fun _ _ _ h => h) (by rfl) ?hh6_24 (by assumption) ?_
                          case hh6_24 => (intro wq hSw; (try dsimp only at hSw); go_simp; (try (with_reducible rfl)))
                          go_frame
                          refine wpAnyH_takeD (some 125) (i := 25) (v := ?vh6_25) rfl rfl (by kernel_rfl) (by kernel_rfl) (by kernel_rfl) (fun _ _ _ h => h) (by rfl) ?hh6_25 (by assumption) ?_
                          case hh6_25 => (intro wq hSw; (try dsimp only at hSw); go_simp; (try (with_reducible rfl)))
                          go_frame
                          refine wpAnyH_takeD (some 126) (i := 26) (v := ?vh6_26) rfl rfl (by kernel_rfl) (by kernel_rfl) (by kernel_rfl) (fun _ _ _ h => h) (by rfl) ?hh6_26 (by assumption) ?_
                          case hh6_26 => (intro wq hSw; (try dsimp only at hSw); go_simp; (try (with_reducible rfl)))
                          go_frame
                          refine wpAnyH_takeD (some 127) (i := 27) (v := ?vh6_27) rfl rfl (by kernel_rfl) (by kernel_rfl) (by kernel_rfl) (fun _ _ _ h => h) (by rfl) ?hh6_27 (by assumption) ?_
                          case hh6_27 => (intro wq hSw; (try dsimp only at hSw); go_simp; (try (with_reducible rfl)))
                          go_frame
                          refine wpAnyH_takeD (some 128) (i := 28) (v := ?vh6_28) rfl rfl (by kernel_rfl) (by kernel_rfl) (by kernel_rfl) (fun _ _ _ h => h) (by rfl) ?hh6_28 (by assumption) ?_
                          case hh6_28 => (intro wq hSw; (try dsimp only at hSw); go_simp; (try (with_reducible rfl)))
                          go_frame
                          refine wpAnyH_takeD (some 11) (i := 29) (v := ?vh6_29) rfl rfl (by kernel_rfl) (by kernel_rfl) (by kernel_rfl) (fun _ _ _ h => h) (by rfl) ?hh6_29 (by assumption) ?_
                          case hh6_29 => (intro wq hSw; (try dsimp only at hSw); go_simp; (try (with_reducible rfl)))
                          go_frame
                          refine wpAnyH_done (by kernel_rfl) ?_ _
                          refine NoPanic.normal ?_
                          go_wp2_with fail
                          go_roundw
                          case rel => exact ⟨k + 1, _, by go_num, rfl, by omega, (by rw [domUpto_next HX.out]; rw [bytesLe_eq]; exact ⟨fun h => .inr ⟨of_decide_eq_true HQ.out.symm, h⟩, fun h => h.elim (fun h => absurd (HF.out.2 h) (by simp)) (fun h => h.2)⟩), hbw.drew⟩
                          case measure => simp [intOf]; omega
                    · obtain rfl : nc = k := by omega
                      have dk : decide ((nc : Int) < (nc : Int)) = false := by simp
                      have hfd : fd = true := HF.out.2 (by
                        obtain ⟨y, hy, e1, e2⟩ := (canF_is (l.map Sg.vs)).dom s.vs (List.mem_map_of_mem hsm.out)
                        rw [← HE1.out] at hy
                        obtain ⟨x, hx, rfl⟩ := List.mem_map.1 hy
                        obtain ⟨j, hj⟩ := List.mem_iff_getElem?.1 hx
                        exact ⟨j, x, by rw [← HNc.out]; exact (List.getElem?_eq_some_iff.1 hj).1, hj, e1, e2⟩)
                      subst hfd
                      go_wp2
                      go_roundw
                      case rel => exact ⟨i + 1, by go_num, by omega, hbw⟩
                      case measure => simp [intOf]; omega
                · obtain rfl : n' = i := by omega
                  have di2 : decide ((n' : Int) < (n' : Int)) = false := by simp
                  have hbx := hb1.trans (hbw.mono hb1.size)
                  go_wp2_with (go_at_call 34; refine (HAw.out _).mono ?_; rintro en w9 ⟨rfl, hb9⟩)
                  go_ret
                  exact ⟨rfl, hbx.trans (hb9.mono hbx.size)⟩

theorem lcanon_any (A : Option Addr) (c : Nat) (by_ : Int) (l : List Sg) (w : World) (hr : Rd w w.heap.size A (l.flatMap sgc)) (hok : SgsOk w w.heap.size l) (hc : l.length ≤ c) (hm : c ≤ maxLen) :
    Calls Try.prog 8 #[.slice A l.length c, .int .i64 by_] w fun e w' => e = .returned (.bool true) ∧ Below w.heap.size w w' :=
  lcanon_core A l.length (min l.length 200) c by_ (l.take 200) w (by rw [List.length_take]; omega) rfl (fun h => some8 hr (by omega)) hc hm (hr.sgTake 200) (hok.sub (fun s hs => List.mem_of_mem_take hs))
end Go.Proofs.Ythmecidpjlaonaa
namespace Go.Proofs.Ythmecidpjlaonaa.signedCanonical
open Go.ChangeShapes Go.WideShapes Go.ChangeAt Go.RowKit

theorem own : ownKnob Try.prog.godebug = none := by kernel_rfl
theorem laidOut : laidOutB Try.prog = true := by kernel_rfl

set_option maxRecDepth 100000 in
set_option maxHeartbeats 1000000 in
theorem lifted (os : Os) (started : os.Started) (H : Type) (enc : TypeId × Value → H) :
    ReturnsInHanded {} Try.checked os 8 .any (Rows.signedCanonicalSpec.pre6 enc Try.prog Try.f8 Rows.signedCanonicalRow.domain false) (Rows.signedCanonicalSpec.post enc Try.prog Try.f8 false true false false) := by
  refine returnsInHanded_of_change_sized (C := Try.checked) own started (by kernel_rfl) Try.func8
    (ChangeSpec.witness6 (enc := enc) (C := Try.checked) false ⟨#[], #[.slice none 0 0, .int .i64 0], []⟩ 8 (by kernel_rfl) (by kernel_rfl) (by kernel_rfl) (by kernel_rfl)) ?_
  intro W base args ds gs before hval0 hW hcnd hsz0 _
  have hval : ∀ (j : Nat) t v, Try.f8.params[j]? = some t → args[j]? = some v → Value.okWide Try.prog W .any base t v := hval0
  have hW' := hW
  obtain ⟨p, q, hA0, hV, rfl, hfz, hnd⟩ := hW
  have hA : DataW.TrodAll enc Try.prog W 0 (fun _ => true) true Try.f8.params.toList args.toList ds p := hA0
  have hsz : (DataW.weightsEach Try.prog (Try.f8.params.toList ++ Rows.signedCanonicalSpec.plain.varTypes Try.prog) (ds ++ gs)).all (· ≤ reachBytes) = true := hsz0
  rw [Try.params8] at hA hval hsz
  obtain ⟨v0, vs0, d0, ds0, p0, q0, hargs, rfl, rfl, h0, r0⟩ := trodAll_cons hA
  obtain ⟨v1, vs1, d1, ds1, p1, q1, ha1, rfl, rfl, h1, r1⟩ := trodAll_cons r0
  subst ha1
  obtain ⟨rfl, rfl, rfl⟩ := trodAll_nil r1
  obtain rfl : args = #[v0, v1] := by cases args; simp_all
  obtain ⟨rfl, rfl⟩ := trodVars_none hV
  have hwt : ∀ k ∈ DataW.weightsEach Try.prog ([29, 3] ++ Rows.signedCanonicalSpec.plain.varTypes Try.prog) ([d0, d1] ++ []), k ≤ reachBytes := fun k hk => by simpa using List.all_eq_true.1 hsz k hk
  have k0 := h0
  have lt0 : ∀ x ∈ p0, x.block < W.heap.size := by obtain ⟨m, hm⟩ := k0; exact DataW.trod_lt m _ _ _ hm
  obtain ⟨A0, l0, cap0, hv0, hr0, hok0, hl0, hm0, _⟩ : ∃ (A : Option Addr) (l : List Sg) (cap : Nat), v0.cells.toList = [.slice A l.length cap] ∧ Rd W W.heap.size A (l.flatMap sgc) ∧ (∀ a ∈ l, SgOk W W.heap.size a ∧ SgCap a) ∧ l.length ≤ cap ∧ cap ≤ maxLen ∧ l.length * Try.prog.bytesOf 43 ≤ reachBytes := by
    obtain ⟨fuel, hf⟩ := h0
    exact open_list sgc 23 (fun a => SgOk W W.heap.size a ∧ SgCap a) Try.underlying29 cells43 (by omega) (fun n cs x h hw => open_signed2 h hw) (fun e => by simp [sgc, Sg.size_cells]) hf (mem_weightsEach hwt (j := 0) (t := 29) rfl rfl)
  obtain ⟨a0, len0, c0, rfl⟩ := okWide_slice Try.underlying29 (hval 0 29 v0 rfl rfl)
  simp [Value.cells] at hv0
  obtain ⟨rfl, rfl, rfl⟩ := hv0
  have k1 := h1
  have lt1 : ∀ x ∈ p1, x.block < W.heap.size := by obtain ⟨m, hm⟩ := k1; exact DataW.trod_lt m _ _ _ hm
  obtain ⟨n1, hv1, _, hw1⟩ : ∃ n : Int, v1.cells.toList = [.int .i64 n] ∧ True ∧ (Lit.int .i64 n).wf = true := by
    obtain ⟨fuel, hf⟩ := h1
    obtain ⟨n, e, _, hw⟩ := DataW.trod_int Try.underlying3 hf
    exact ⟨n, e, trivial, hw⟩
  obtain ⟨m1, rfl⟩ := okWide_int Try.underlying3 (hval 1 3 v1 rfl rfl)
  simp [Value.cells] at hv1
  subst hv1
  clear hA0 hval0
  refine (lcanon_any a0 c0 m1 l0 W hr0 hok0 hl0 hm0).mono fun e W' ⟨he, bel⟩ => ?_
  subst he
  exact ⟨_, rfl, _, _, _, [], _, [], hW', trodAll_mk1 (shut_bool Try.underlying4 _), (trodAll_cons_mk (Below.trod laidOut (by kernel_rfl) (of_decide_eq_true (by kernel_rfl)) k0 bel lt0) (trodAll_cons_mk (Below.trod laidOut (by kernel_rfl) (of_decide_eq_true (by kernel_rfl)) k1 bel lt1) trodAll_mk0)), rfl, bel.frame _, fun h => by cases h⟩

theorem over : Rows.signedCanonicalRow.holds Try.pinned (OpenSpec.ofChange Rows.signedCanonicalSpec) :=
  OpenClaim.holds_of_wide 8 Try.f8 rfl rfl rfl rfl rfl rfl rfl ⟨rfl, rfl, rfl, rfl, rfl⟩ rfl rfl rfl rfl rfl (by kernel_rfl) Try.func8 closed
    (of_decide_eq_true (by kernel_rfl)) (by unfold Func.isWrapper; first | (rw [if_pos (by decide +kernel)]; kernel_rfl) | (rw [if_neg (by decide +kernel)]; exact ⟨rfl, rfl⟩))
    (fun os started H enc _ => lifted os started H enc)

theorem proved : Rows.SignedCanonicalSaid := over
end Go.Proofs.Ythmecidpjlaonaa.signedCanonical
