/-
  The reference's Canonical returns what canF says. Condition: the list lies in memory below the call and has at most a million elements.
-/
import Derived.Test.YthmecidpjlaonaaGreatGSgs
import Derived.Deep.DeepCutAuto
namespace Go.Proofs.YthmecidpjlaonaaGreat
open Go.RowKit
attribute [local go_sem ↓] Go.wp_at_zero Go.wp_at_succ loadNm loadVt loadSg loadEv
attribute [local go_sem] runNm runVt runSg runEv pickRow_some rowAt_drew rowAt_drewN

set_option maxRecDepth 100000 in
set_option maxHeartbeats 4000000 in
theorem rcan_step (A : Option Addr) (n c : Nat) (l : List Sg) (w : World) (hn : l.length = n) (hr : Rd w w.heap.size A (l.flatMap sgc)) (hok : SgsOk w w.heap.size l) (hsmall : n ≤ 1000000) (hc : n ≤ c) (hm : c ≤ maxLen)
    (hrec : ∀ (A' : Option Addr) (n' c' : Nat) (l' : List Sg) (w' : World), n' < n → l'.length = n' → Rd w' w'.heap.size A' (l'.flatMap sgc) → SgsOk w' w'.heap.size l' → n' ≤ c' → c' ≤ maxLen → Calls Tryz.prog 27 #[.slice A' n' c'] w' (CanPost w' (l'.map Sg.vs))) :
    Calls Tryz.prog 27 #[.slice A n c] w (CanPost w (l.map Sg.vs)) := by
  have HN := Lib.hid hn; clear hn
  have HR := Lib.hid hr; clear hr
  have HOk := Lib.hid hok; clear hok
  have HRec := Lib.hid hrec; clear hrec
  unfold maxLen at hm
  go_enter Tryz.func27, Tryz.ntmps27
  go_wp2
  go_loopw [3, 4] (fun rv iv wr => RdyRel (l.map Sg.vs) w n rv iv wr) (fun _ iv _ => n - (intOf iv).toNat)
  case atStart => exact ⟨0, true, rfl, rfl, by omega, fun _ _ _ _ h => absurd h (Nat.not_lt_zero _), fun h => (by cases h), Below.refl _ _⟩
  case round =>
    obtain ⟨i, rb, rfl, rfl, hin, h1, h2, hbw⟩ := hrel
    have H1 := Lib.hid h1
    have H2 := Lib.hid h2
    clear h1 h2
    obtain ⟨r, hrr⟩ : ∃ r, r = (rb && decide (i + 1 < n)) := ⟨_, rfl⟩
    have HRR := Lib.hid hrr
    clear hrr
    go_upto_region 3 with fail
    go_cut [17] (fun s wx => BoolCut r w s wx)
    case first =>
      by_cases hi : i + 1 < n
      · have di : decide ((i : Int) + 1 < (n : Int)) = true := by simp; omega
        cases rb <;> (go_wp2; go_meet; exact ⟨by rw [HRR.out]; simp [hi], hbw⟩)
      · have di : decide ((i : Int) + 1 < (n : Int)) = false := by simp; omega
        cases rb <;> (go_wp2; go_meet; exact ⟨by rw [HRR.out]; simp [hi], hbw⟩)
    case rest =>
      clear hbw
      obtain ⟨rfl, hbw⟩ := hcut
      cases r with
      | true =>
        have hboth : rb = true ∧ i + 1 < n := by
          have := HRR.out
          simpa using this.symm
        obtain ⟨rfl, hi⟩ := hboth
        have ii : i < n := by omega
        have ij : (0 : Int) ≤ (i : Int) + 1 := by omega
        have ik : (i : Int) + 1 < (n : Int) := by omega
        have hw : IntKind.i64.wrap ((i : Int) + 1) = ((i + 1 : Nat) : Int) := IntWalk.i64_in _ (by omega)
        obtain ⟨x, hx⟩ : ∃ x, l[i]? = some x := ⟨_, List.getElem?_eq_getElem (by rw [HN.out]; omega)⟩
        obtain ⟨y, hy⟩ : ∃ y, l[i + 1]? = some y := ⟨_, List.getElem?_eq_getElem (by rw [HN.out]; omega)⟩
        obtain ⟨b, o, rfl, hb, hcell⟩ := HR.out.cells (by intro e; have := flat_length sgc 23 l (sgc_len l); rw [e, HN.out] at this; simp at this; omega)
        clear hcell
        have HRows : Hid (∀ W, Below w.heap.size w W → rowAt W b (o + i * 23) 22 = some x.vote.cells ∧ rowAt W b (o + (i + 1) * 23) 22 = some y.vote.cells) := fun W hW => ⟨(HR.out.below hW).sgVote hx, (HR.out.below hW).sgVote hy⟩
        have HLe : Hid (∀ W, Calls Tryz.prog 62 #[x.vote.val, y.vote.val] W (BoolPost W (lessV x.vote y.vote))) := fun W => rvless_any x.vote y.vote W
        have HX := Lib.hid hx
        have HY := Lib.hid hy
        clear hx hy HRR
        go_upto_region 5 with fail
        refine wp_region_noPanic ?_
        refine wp_region_held_drew (S := fun w' => rowAt w' b (o + i * 23) 22 = some x.vote.cells ∧ rowAt w' b (o + (i + 1) * 23) 22 = some y.vote.cells) (by kernel_rfl) (HRows.out _ hbw.drew) (fun hHeld => ?_)
        refine wpAnyH_takeD (some 20) (i := 0) (v := ?vh1_0) rfl rfl (by kernel_rfl) (by kernel_rfl) (by kernel_rfl) (fun _ _ _ h => h) (by rfl) ?hh1_0 (by assumption) ?_
        case hh1_0 => (intro wq hSw; (try dsimp only at hSw); go_simp; (try (with_reducible rfl)))
        go_frame
        refine wpAnyH_takeD (some 21) (i := 1) (v := ?vh1_1) rfl rfl (by kernel_rfl) (by kernel_rfl) (by kernel_rfl) (fun _ _ _ h => h) (by rfl) ?hh1_1 (by assumption) ?_
        case hh1_1 => (intro wq hSw; (try dsimp only at hSw); go_simp; (try (with_reducible rfl)))
        go_frame
        refine wpAnyH_takeD (some 22) (i := 2) (v := ?vh1_2) rfl rfl (by kernel_rfl) (by kernel_rfl) (by kernel_rfl) (fun _ _ _ h => h) (by rfl) ?hh1_2 (by assumption) ?_
        case hh1_2 => (intro wq hSw; (try dsimp only at hSw); go_simp; (try (with_reducible rfl)))
        go_frame
        refine wpAnyH_takeD (some 23) (i := 3) (v := ?vh1_3) rfl rfl (by kernel_rfl) (by kernel_rfl) (by kernel_rfl) (fun _ _ _ h => h) (by rfl) ?hh1_3 (by assumption) ?_
        case hh1_3 => (intro wq hSw; (try dsimp only at hSw); go_simp; (try (with_reducible rfl)))
        go_frame
        refine wpAnyH_takeD (some 24) (i := 4) (v := ?vh1_4) rfl rfl (by kernel_rfl) (by kernel_rfl) (by kernel_rfl) (fun _ _ _ h => h) (by rfl) ?hh1_4 (by assumption) ?_
        case hh1_4 => (intro wq hSw; (try dsimp only at hSw); go_simp; (try (with_reducible rfl)))
        go_frame
        refine wpAnyH_takeD (some 25) (i := 5) (v := ?vh1_5) rfl rfl (by kernel_rfl) (by kernel_rfl) (by kernel_rfl) (fun _ _ _ h => h) (by rfl) ?hh1_5 (by assumption) ?_
        case hh1_5 => (intro wq hSw; (try dsimp only at hSw); go_simp; (try (with_reducible rfl)))
        go_frame
        refine wpAnyH_takeD (some 26) (i := 6) (v := ?vh1_6) rfl rfl (by kernel_rfl) (by kernel_rfl) (by kernel_rfl) (fun _ _ _ h => h) (by rfl) ?hh1_6 (by assumption) ?_
        case hh1_6 => (intro wq hSw; (try dsimp only at hSw); go_simp; (try (with_reducible rfl)))
        go_frame
        refine wpAnyH_takeD (some 27) (i := 7) (v := ?vh1_7) rfl rfl (by kernel_rfl) (by kernel_rfl) (by kernel_rfl) (fun _ _ _ h => h) (by rfl) ?hh1_7 (by assumption) ?_
        case hh1_7 => (intro wq hSw; (try dsimp only at hSw); go_simp; (try (with_reducible rfl)))
        go_frame
        refine wpAnyH_takeD (some 28) (i := 8) (v := ?vh1_8) rfl rfl (by kernel_rfl) (by kernel_rfl) (by kernel_rfl) (fun _ _ _ h => h) (by rfl) ?hh1_8 (by assumption) ?_
        case hh1_8 => (intro wq hSw; (try dsimp only at hSw); go_simp; (try (with_reducible rfl)))
        go_frame
        refine wpAnyH_takeD (some 29) (i := 9) (v := ?vh1_9) rfl rfl (by kernel_rfl) (by kernel_rfl) (by kernel_rfl) (fun _ _ _ h => h) (by rfl) ?hh1_9 (by assumption) ?_
        case hh1_9 => (intro wq hSw; (try dsimp only at hSw); go_simp; (try (with_reducible rfl)))
        go_frame
        refine wpAnyH_takeD (some 30) (i := 10) (v := ?vh1_10) rfl rfl (by kernel_rfl) (by kernel_rfl) (by kernel_rfl) (fun _ _ _ h => h) (by rfl) ?hh1_10 (by assumption) ?_
        case hh1_10 => (intro wq hSw; (try dsimp only at hSw); go_simp; (try (with_reducible rfl)))
        go_frame
        refine wpAnyH_ready (rs := [11]) (by kernel_rfl) (by simp) ?_
        refine AllReadyH.cons rfl (fun K hK => ?_) AllReadyH.nil
        go_simp
        refine (HLe.out _).mono ?_; rintro en w2 ⟨rfl, hb2⟩; have hbw2 := hbw.trans (((Below.refl _ _).drew.trans hb2).mono hbw.size)
        go_wp2_with fail
        refine hK.out _ _ (HRows.out _ hbw2) (fun hHeld => ?_)
        clear hK K
        try go_frame
        refine wpAnyH_takeD (some 3) (i := 12) (v := ?vh1_12) rfl rfl (by kernel_rfl) (by kernel_rfl) (by kernel_rfl) (fun _ _ _ h => h) (by rfl) ?hh1_12 (by assumption) ?_
        case hh1_12 => (intro wq hSw; (try dsimp only at hSw); go_simp; (try (with_reducible rfl)))
        go_frame
        refine wpAnyH_done (by kernel_rfl) ?_ _
        refine NoPanic.normal ?_
        go_wp2_with fail
        go_roundw
        case rel =>
          refine ⟨i + 1, _, rfl, by go_num, by omega, fun hb j p q hj hp hq => ?_, fun hb => ?_, hbw2⟩
          · rcases Nat.lt_or_ge j i with h | h
            · exact H1.out (by first | rfl | trivial) j p q h hp hq
            · obtain rfl : j = i := by omega
              rw [List.getElem?_map, HX.out] at hp
              rw [List.getElem?_map, HY.out] at hq
              cases hp; cases hq
              exact hb
          · rw [Bool.eq_false_iff]
            intro h
            have := (ascL_iff _).1 h i x.vs y.vs (by rw [List.getElem?_map, HX.out]; rfl) (by rw [List.getElem?_map, HY.out]; rfl)
            rw [hb] at this
            cases this
        case measure => simp [intOf]; omega
      | false =>
        cases rb with
        | true =>
          have hi : ¬ i + 1 < n := by
            intro h
            have := HRR.out
            simp [h] at this
          have hasc : Hid (ascL (l.map Sg.vs) = true) := (ascL_iff _).2 (fun j x y hx hy => H1.out rfl j x y (by have := (List.getElem?_eq_some_iff.1 hy).1; rw [List.length_map, HN.out] at this; omega) hx hy)
          clear HRR H1 H2
          go_wp2
          go_loopw [5, 6] (fun v iv wr => CopyRel (l.map Sg.vs) w v iv wr) (fun _ iv _ => n - (intOf iv).toNat)
          case atStart => exact ⟨0, [], rfl, Nat.zero_le _, by simp, ⟨by simp, .inl ⟨rfl, rfl⟩⟩, by simp, hbw⟩
          case round =>
            clear hbw
            obtain ⟨j, O, rfl, hjn, hO, hown, hall, hbj⟩ := hrel
            rw [List.length_map, HN.out] at hjn
            have hOl : O.length = j := by
              have := congrArg List.length hO
              rw [List.length_map, List.length_take, List.length_map, HN.out] at this
              omega
            have HOl := Lib.hid hOl
            have hOle : O.length ≤ 1000000 := by omega
            have HO := Lib.hid hO
            have HOwn := Lib.hid hown
            have HAll := Lib.hid hall
            clear hO hown hall hOl
            by_cases hj : j < n
            · have jk : (j : Int) < (n : Int) := by omega
              obtain ⟨s, hs⟩ : ∃ s, l[j]? = some s := ⟨_, List.getElem?_eq_getElem (by rw [HN.out]; omega)⟩
              obtain ⟨b, o, rfl, hb, hcell⟩ := HR.out.cells (by intro e; have := flat_length sgc 23 l (sgc_len l); rw [e, HN.out] at this; simp at this; omega)
              clear hcell
              have HRows : Hid (∀ W, Below w.heap.size w W → rowAt W b (o + j * 23) 22 = some s.vote.cells ∧ W.cell? ⟨b, o + j * 23 + 22, none⟩ = some (.slice s.A s.sig.length s.cap)) := fun W hW => ⟨(HR.out.below hW).sgVote hs, (HR.out.below hW).sgSig hs⟩
              have hsm : s ∈ l := List.mem_of_getElem? hs
              have HSg : Hid (∀ W, Below w.heap.size w W → Rd W w.heap.size s.A (s.sig.map B)) := fun W hW => (HOk.out s hsm).1.2.1.below hW
              have hsl : s.sig.length ≤ 140737488351232 := (HOk.out s hsm).1.2.2
              have HVk := Lib.hid (HOk.out s hsm).1.1
              have HS := Lib.hid hs
              clear hs hsm
              go_upto_region 11 with fail
              refine wp_region_noPanic ?_
              refine wp_region_held_drew (S := fun w' => rowAt w' b (o + j * 23) 22 = some s.vote.cells ∧ w'.cell? ⟨b, o + j * 23 + 22, none⟩ = some (.slice s.A s.sig.length s.cap)) (by kernel_rfl) (HRows.out _ hbj.drew) (fun hHeld => ?_)
              refine wpAnyH_takeD (some 39) (i := 0) (v := ?vh2_0) rfl rfl (by kernel_rfl) (by kernel_rfl) (by kernel_rfl) (fun _ _ _ h => h) (by rfl) ?hh2_0 (by assumption) ?_
              case hh2_0 => (intro wq hSw; (try dsimp only at hSw); go_simp; (try (with_reducible rfl)))
              go_frame
              refine wpAnyH_takeD (some 40) (i := 1) (v := ?vh2_1) rfl rfl (by kernel_rfl) (by kernel_rfl) (by kernel_rfl) (fun _ _ _ h => h) (by rfl) ?hh2_1 (by assumption) ?_
              case hh2_1 => (intro wq hSw; (try dsimp only at hSw); go_simp; (try (with_reducible rfl)))
              go_frame
              refine wpAnyH_takeD (some 41) (i := 2) (v := ?vh2_2) rfl rfl (by kernel_rfl) (by kernel_rfl) (by kernel_rfl) (fun _ _ _ h => h) (by rfl) ?hh2_2 (by assumption) ?_
              case hh2_2 => (intro wq hSw; (try dsimp only at hSw); go_simp; (try (with_reducible rfl)))
              go_frame
              refine wpAnyH_takeD (some 42) (i := 3) (v := ?vh2_3) rfl rfl (by kernel_rfl) (by kernel_rfl) (by kernel_rfl) (fun _ _ _ h => h) (by rfl) ?hh2_3 (by assumption) ?_
              case hh2_3 => (intro wq hSw; (try dsimp only at hSw); go_simp; (try (with_reducible rfl)))
              go_frame
              refine wpAnyH_takeD (some 43) (i := 4) (v := ?vh2_4) rfl rfl (by kernel_rfl) (by kernel_rfl) (by kernel_rfl) (fun _ _ _ h => h) (by rfl) ?hh2_4 (by assumption) ?_
              case hh2_4 => (intro wq hSw; (try dsimp only at hSw); go_simp; (try (with_reducible rfl)))
              go_frame
              refine wpAnyH_takeD (some 44) (i := 5) (v := ?vh2_5) rfl rfl (by kernel_rfl) (by kernel_rfl) (by kernel_rfl) (fun _ _ _ h => h) (by rfl) ?hh2_5 (by assumption) ?_
              case hh2_5 => (intro wq hSw; (try dsimp only at hSw); go_simp; (try (with_reducible rfl)))
              go_frame
              refine wpAnyH_takeD (some 45) (i := 6) (v := ?vh2_6) rfl rfl (by kernel_rfl) (by kernel_rfl) (by kernel_rfl) (fun _ _ _ h => h) (by rfl) ?hh2_6 (by assumption) ?_
              case hh2_6 => (intro wq hSw; (try dsimp only at hSw); go_simp; (try (with_reducible rfl)))
              go_frame
              refine wpAnyH_takeD (some 46) (i := 7) (v := ?vh2_7) rfl rfl (by kernel_rfl) (by kernel_rfl) (by kernel_rfl) (fun _ _ _ h => h) (by rfl) ?hh2_7 (by assumption) ?_
              case hh2_7 => (intro wq hSw; (try dsimp only at hSw); go_simp; (try (with_reducible rfl)))
              go_frame
              refine wpAnyH_takeD (some 47) (i := 8) (v := ?vh2_8) rfl rfl (by kernel_rfl) (by kernel_rfl) (by kernel_rfl) (fun _ _ _ h => h) (by rfl) ?hh2_8 (by assumption) ?_
              case hh2_8 => (intro wq hSw; (try dsimp only at hSw); go_simp; (try (with_reducible rfl)))
              go_frame
              refine wpAnyH_takeD (some 48) (i := 9) (v := ?vh2_9) rfl rfl (by kernel_rfl) (by kernel_rfl) (by kernel_rfl) (fun _ _ _ h => h) (by rfl) ?hh2_9 (by assumption) ?_
              case hh2_9 => (intro wq hSw; (try dsimp only at hSw); go_simp; (try (with_reducible rfl)))
              go_frame
              refine wpAnyH_takeD (some 49) (i := 10) (v := ?vh2_10) rfl rfl (by kernel_rfl) (by kernel_rfl) (by kernel_rfl) (fun _ _ _ h => h) (by rfl) ?hh2_10 (by assumption) ?_
              case hh2_10 => (intro wq hSw; (try dsimp only at hSw); go_simp; (try (with_reducible rfl)))
              go_frame
              refine wpAnyH_ready (rs := [11]) (by kernel_rfl) (by simp) ?_
              refine AllReadyH.cons rfl (fun K hK => ?_) AllReadyH.nil
              rw [if_pos (by rfl)]
              refine wp_appD (some 50) (by rfl) (.const (.slice none 0 0)) (.tmp 49) _ (by rfl) w.heap.size 5 (.int .u8 0) 1 1 Tryz.underlying32 info_byte rfl (by decide) (.slice none 0 0) 0 [] (by rfl) ⟨rfl, .inl ⟨rfl, rfl⟩⟩ w.heap.size s.A s.sig.length s.cap (s.sig.map B) (by rfl) (by simp) (HSg.out _ hbj.drew) (fun u hu => bytes_one hu) (by omega) (by unfold maxLen; omega) hbj.size ?_; intro v3 w3 hown3 hg3 hat3; have hbw3 : Below w.heap.size w w3 := hbj.drew.grown hg3 hbj.size (by rintro k hk; simp [Value.ownBlock] at hk); have HOwn3 := Lib.hid (own_none (own_drew HOwn.out) hg3); have HAll3 := Lib.hid (fun s hs => SgOwn.none (w := World.drew _) (HAll.out s hs) hg3); rw [List.nil_append, Nat.zero_add] at hown3; obtain ⟨A3, c3, hv3⟩ := own_form hown3; subst hv3; have HSo := Lib.hid hown3; clear hown3 hg3 hat3
              refine hK.out _ _ (HRows.out _ hbw3) (fun hHeld => ?_)
              clear hK K
              try go_frame
              refine wpAnyH_takeD (some 51) (i := 12) (v := ?vh2_12) rfl rfl (by kernel_rfl) (by kernel_rfl) (by kernel_rfl) (fun _ _ _ h => h) (by rfl) ?hh2_12 (by assumption) ?_
              case hh2_12 => (intro wq hSw; (try dsimp only at hSw); go_simp; (try (with_reducible rfl)))
              go_frame
              refine wpAnyH_ready (rs := [13]) (by kernel_rfl) (by simp) ?_
              refine AllReadyH.cons rfl (fun K hK => ?_) AllReadyH.nil
              rw [if_pos (by rfl)]
              refine wp_build1 (some 52) (by rfl) 23 34 (.tmp 51) (by rfl) (Sg.mk s.vote s.sig A3 c3).cells (by simp only [Sg.cells]; rfl) Tryz.underlying23 (by rw [Sg.size_cells]; kernel_rfl) (by rw [Sg.size_cells]; omega) (by rw [Sg.size_cells]; omega) ?_
              refine hK.out _ _ (HRows.out _ (hbw3.alloc hbw3.size _)) (fun hHeld => ?_)
              clear hK K
              try go_frame
              refine wpAnyH_ready (rs := [14]) (by kernel_rfl) (by simp) ?_
              refine AllReadyH.cons rfl (fun K hK => ?_) AllReadyH.nil
              rw [if_pos (by rfl)]
              refine wp_appD (some 53) (by rfl) (.tmp 39) (.tmp 52) _ (by rfl) w.heap.size 34 (.agg zeroSc) 23 88 Tryz.underlying23 info_signed rfl (by decide) u5 O.length (O.flatMap sgc) (by rfl) (HOwn3.out.alloc _) (w3.heap.size + 1) (some ⟨w3.heap.size, 0, none⟩) 1 1 (sgc (Sg.mk s.vote s.sig A3 c3)) (by rfl) (by rw [Array.length_toList, Sg.size_cells]) (Rd.mk (by omega) (fun k u hu => by rw [Nat.zero_add, (Blk.new w3 _ _).cell]; simpa using hu)) (fun u hu => (Sg.mk s.vote s.sig A3 c3).one u hu) (by omega) (by unfold maxLen; omega) (by have := hbw3.size; simp; omega) ?_; intro v5 w5 hown5 hg5 hat5; have hbw5 : Below w.heap.size w w5 := below_own (hbw3.alloc hbw3.size _) (HOwn3.out.alloc _) hg5
              refine hK.out _ _ (HRows.out _ hbw5) (fun hHeld => ?_)
              clear hK K
              try go_frame
              refine wpAnyH_takeD (some 5) (i := 15) (v := ?vh2_15) rfl rfl (by kernel_rfl) (by kernel_rfl) (by kernel_rfl) (fun _ _ _ h => h) (by rfl) ?hh2_15 (by assumption) ?_
              case hh2_15 => (intro wq hSw; (try dsimp only at hSw); go_simp; (try (with_reducible rfl)))
              go_frame
              refine wpAnyH_done (by kernel_rfl) ?_ _
              refine NoPanic.normal ?_
              have HOwn5 := Lib.hid hown5
              have HAll5 : Hid (∀ t ∈ O ++ [Sg.mk s.vote s.sig A3 c3], SgOwn w5 w.heap.size t) := by
                intro t ht
                rcases List.mem_append.1 ht with ht | ht
                · exact ((HAll3.out t ht).alloc _).far (HOwn3.out.alloc _) hg5
                · rw [List.mem_singleton.1 ht]
                  have hnew : SgOwn w3 w.heap.size (Sg.mk s.vote s.sig A3 c3) := ⟨HVk.out, HSo.out, hsl⟩
                  exact (hnew.alloc _).far (HOwn3.out.alloc _) hg5
              clear hown5 hg5 hat5
              go_wp2_with fail
              go_roundw
              case rel =>
                refine ⟨j + 1, O ++ [Sg.mk s.vote s.sig A3 c3], by go_num, by rw [List.length_map, HN.out]; omega, ?_, ?_, HAll5.out, hbw5⟩
                · rw [List.map_append, HO.out, List.take_add_one, List.getElem?_map, HS.out]; rfl
                · have h := HOwn5.out
                  rw [List.length_append, List.flatMap_append]
                  simpa using h
              case measure => simp [intOf]; omega
            · obtain rfl : n = j := by omega
              go_wp2
              go_ret
              refine ⟨O, _, rfl, hbj, HOwn.out, fun s hs => (HAll.out s hs).ok, ?_⟩
              rw [HO.out, canF_asc hasc.out, List.take_of_length_le (Nat.le_of_eq (by rw [List.length_map, HN.out]))]
        | false =>
          have hasc : Hid (ascL (l.map Sg.vs) = false) := H2.out rfl
          clear HRR H1 H2
          have hn2 : 2 ≤ n := by
            rcases Nat.lt_or_ge n 2 with h | h
            · have h1 := ascL_short (l.map Sg.vs) (by rw [List.length_map, HN.out]; omega)
              rw [hasc.out] at h1
              cases h1
            · exact h
          obtain ⟨k, hk⟩ : ∃ k, k = n / 2 := ⟨_, rfl⟩
          have hk1 : 1 ≤ k := by omega
          have hkn : k < n := by omega
          have hq : Int.tdiv (n : Int) 2 = (k : Int) := by rw [Int.tdiv_eq_ediv_of_nonneg (by omega)]; omega
          have hqw : IntKind.i64.wrap (k : Int) = (k : Int) := IntWalk.i64_in _ (by omega)
          have hkl : (k : Int) ≤ (c : Int) := by omega
          have hkm : (k : Int) ≤ (n : Int) := by omega
          have hk0 : (0 : Int) ≤ (k : Int) := by omega
          obtain ⟨b, o, rfl, hb, hcell⟩ := HR.out.cells (by intro e; have := flat_length sgc 23 l (sgc_len l); rw [e, HN.out] at this; simp at this; omega)
          clear hcell
          have HA : Hid (∀ W, Below w.heap.size w W → Calls Tryz.prog 27 #[.slice (some ⟨b, o, none⟩) k c] W (CanPost W ((l.map Sg.vs).take k))) := by
            intro W hW
            have h := HRec.out (some ⟨b, o, none⟩) k c (l.take k) W hkn (by rw [List.length_take, HN.out]; omega) (((HR.out.below hW).more hW.size).sgTake k) (((HOk.out.below hW).more hW.size).sub (fun s hs => List.mem_of_mem_take hs)) (by omega) (by unfold maxLen; omega)
            rwa [List.map_take] at h
          have HB : Hid (∀ W, Below w.heap.size w W → Calls Tryz.prog 27 #[.slice (some ⟨b, o + k * 23, none⟩) (n - k) (c - k)] W (CanPost W ((l.map Sg.vs).drop k))) := by
            intro W hW
            have h := HRec.out (some ⟨b, o + k * 23, none⟩) (n - k) (c - k) (l.drop k) W (by omega) (by rw [List.length_drop, HN.out]) (((HR.out.below hW).more hW.size).sgDrop k) (((HOk.out.below hW).more hW.size).sub (fun s hs => List.mem_of_mem_drop hs)) (by omega) (by unfold maxLen; omega)
            rwa [List.map_drop] at h
          have HK : Hid (k = (l.map Sg.vs).length / 2) := by rw [List.length_map, HN.out]; exact hk
          clear hk
          go_upto_region 13 with fail
          go_cut [7, 8] (fun s t wx => TwoL w (canF ((l.map Sg.vs).take k)) (canF ((l.map Sg.vs).drop k)) s t wx)
          case first =>
            refine wp_region_noPanic ?_
            refine wp_region_held_drew (S := fun _ => True) (by kernel_rfl) (trivial) (fun hHeld => ?_)
            refine wpAnyH_takeD (some 55) (i := 0) (v := ?vh3_0) rfl rfl (by kernel_rfl) (by kernel_rfl) (by kernel_rfl) (fun _ _ _ h => h) (by rfl) ?hh3_0 (by assumption) ?_
            case hh3_0 => (intro wq hSw; (try dsimp only at hSw); go_simp; (try (with_reducible rfl)))
            go_frame
            refine wpAnyH_takeD (some 56) (i := 1) (v := ?vh3_1) rfl rfl (by kernel_rfl) (by kernel_rfl) (by kernel_rfl) (fun _ _ _ h => h) (by rfl) ?hh3_1 (by assumption) ?_
            case hh3_1 => (intro wq hSw; (try dsimp only at hSw); go_simp; (try (with_reducible rfl)))
            go_frame
            refine wpAnyH_takeD (some 57) (i := 2) (v := ?vh3_2) rfl rfl (by kernel_rfl) (by kernel_rfl) (by kernel_rfl) (fun _ _ _ h => h) (by rfl) ?hh3_2 (by assumption) ?_
            case hh3_2 => (intro wq hSw; (try dsimp only at hSw); go_simp; (try (with_reducible rfl)))
            go_frame
            refine wpAnyH_takeD (some 58) (i := 3) (v := ?vh3_3) rfl rfl (by kernel_rfl) (by kernel_rfl) (by kernel_rfl) (fun _ _ _ h => h) (by rfl) ?hh3_3 (by assumption) ?_
            case hh3_3 => (intro wq hSw; (try dsimp only at hSw); go_simp; (try (with_reducible rfl)))
            go_frame
            refine wpAnyH_takeD (some 59) (i := 4) (v := ?vh3_4) rfl rfl (by kernel_rfl) (by kernel_rfl) (by kernel_rfl) (fun _ _ _ h => h) (by rfl) ?hh3_4 (by assumption) ?_
            case hh3_4 => (intro wq hSw; (try dsimp only at hSw); go_simp; (try (with_reducible rfl)))
            go_frame
            refine wpAnyH_takeD (some 61) (i := 6) (v := ?vh3_6) rfl rfl (by kernel_rfl) (by kernel_rfl) (by kernel_rfl) (fun _ _ _ h => h) (by rfl) ?hh3_6 (by assumption) ?_
            case hh3_6 => (intro wq hSw; (try dsimp only at hSw); go_simp; (try (with_reducible rfl)))
            go_frame
            refine wpAnyH_takeD (some 62) (i := 7) (v := ?vh3_7) rfl rfl (by kernel_rfl) (by kernel_rfl) (by kernel_rfl) (fun _ _ _ h => h) (by rfl) ?hh3_7 (by assumption) ?_
            case hh3_7 => (intro wq hSw; (try dsimp only at hSw); go_simp; (try (with_reducible rfl)))
            go_frame
            refine wpAnyH_takeD (some 63) (i := 8) (v := ?vh3_8) rfl rfl (by kernel_rfl) (by kernel_rfl) (by kernel_rfl) (fun _ _ _ h => h) (by rfl) ?hh3_8 (by assumption) ?_
            case hh3_8 => (intro wq hSw; (try dsimp only at hSw); go_simp; (try (with_reducible rfl)))
            go_frame
            refine wpAnyH_takeD (some 64) (i := 9) (v := ?vh3_9) rfl rfl (by kernel_rfl) (by kernel_rfl) (by kernel_rfl) (fun _ _ _ h => h) (by rfl) ?hh3_9 (by assumption) ?_
            case hh3_9 => (intro wq hSw; (try dsimp only at hSw); go_simp; (try (with_reducible rfl)))
            go_frame
            refine wpAnyH_takeD (some 65) (i := 10) (v := ?vh3_10) rfl rfl (by kernel_rfl) (by kernel_rfl) (by kernel_rfl) (fun _ _ _ h => h) (by rfl) ?hh3_10 (by assumption) ?_
            case hh3_10 => (intro wq hSw; (try dsimp only at hSw); go_simp; (try (with_reducible rfl)))
            go_frame
            refine wpAnyH_ready (rs := [5]) (by kernel_rfl) (by simp) ?_
            refine AllReadyH.cons rfl (fun K hK => ?_) AllReadyH.nil
            go_simp
            refine (HA.out _ hbw.drew).mono ?_; rintro en w2 ⟨L2, v2, rfl, hb2, hown2, hok2, he2⟩; have hbw2 := hbw.drew.trans (hb2.mono hbw.size); have HS2 := Lib.hid (own_slice hown2 rfl hok2); have HE2 := Lib.hid he2; clear hown2 hok2 he2
            go_wp2_with fail
            refine hK.out _ _ (trivial) (fun hHeld => ?_)
            clear hK K
            try go_frame
            refine wpAnyH_ready (rs := [11]) (by kernel_rfl) (by simp) ?_
            refine AllReadyH.cons rfl (fun K hK => ?_) AllReadyH.nil
            go_simp
            refine (HB.out _ hbw2).mono ?_; rintro en w3 ⟨L3, v3, rfl, hb3, hown3, hok3, he3⟩; have hbw3 := hbw2.trans (hb3.mono hbw2.size); have HS3 := Lib.hid (own_slice hown3 rfl hok3); have HE3 := Lib.hid he3; have HS2' := Lib.hid (HS2.out.below hb3); clear hown3 hok3 he3
            go_wp2_with fail
            refine hK.out _ _ (trivial) (fun hHeld => ?_)
            clear hK K
            try go_frame
            refine wpAnyH_takeD (some 7) (i := 12) (v := ?vh3_12) rfl rfl (by kernel_rfl) (by kernel_rfl) (by kernel_rfl) (fun _ _ _ h => h) (by rfl) ?hh3_12 (by assumption) ?_
            case hh3_12 => (intro wq hSw; (try dsimp only at hSw); go_simp; (try (with_reducible rfl)))
            go_frame
            refine wpAnyH_takeD (some 8) (i := 13) (v := ?vh3_13) rfl rfl (by kernel_rfl) (by kernel_rfl) (by kernel_rfl) (fun _ _ _ h => h) (by rfl) ?hh3_13 (by assumption) ?_
            case hh3_13 => (intro wq hSw; (try dsimp only at hSw); go_simp; (try (with_reducible rfl)))
            go_frame
            refine wpAnyH_done (by kernel_rfl) ?_ _
            refine NoPanic.normal ?_
            go_wp2_with fail
            go_meet
            exact ⟨L2, L3, HS2'.out, HS3.out, HE2.out, HE3.out, hbw3⟩
          case rest =>
            clear hbw HA HB HRec HR HOk
            obtain ⟨L0, M0, hL0, hM0, eL0, eM0, hbw⟩ := hcut
            have HAll : Hid (mergeL (L0.map Sg.vs) (M0.map Sg.vs) = canF (l.map Sg.vs)) := by
              unfold Hid
              rw [eL0, eM0, canF_split (l := l.map Sg.vs) (by rw [hasc.out]; simp), ← HK.out]
            have hlen0 : L0.length + M0.length ≤ n := by
              have h1 := congrArg List.length eL0
              have h2 := congrArg List.length eM0
              have h3 := canF_len ((l.map Sg.vs).take k)
              have h4 := canF_len ((l.map Sg.vs).drop k)
              rw [List.length_map] at h1 h2
              rw [List.length_take, List.length_map, HN.out] at h3
              rw [List.length_drop, List.length_map, HN.out] at h4
              omega
            obtain ⟨W0, hW0⟩ : ∃ W0, W0 = wc := ⟨_, rfl⟩
            subst hW0
            have HBW := Lib.hid hbw
            have HL0 := Lib.hid hL0
            have HM0 := Lib.hid hM0
            clear eL0 eM0 hbw hL0 hM0 hasc HK hq hqw hkl hkm hk0
            go_wp2
            go_loopw [7, 8, 9] (fun s t v wr => MrgRel (canF (l.map Sg.vs)) n W0 s t v wr) (fun s t _ _ => lenOfV s + lenOfV t)
            case atStart => exact ⟨L0, M0, [], HL0.out, HM0.out, (fun s hs => by cases hs), ⟨by simp, .inl ⟨rfl, rfl⟩⟩, Below.refl _ _, by rw [List.map_nil, List.nil_append]; exact HAll.out, by simpa using hlen0⟩
            case round =>
              clear HAll hlen0 HL0 HM0 L0 M0
              obtain ⟨L, M, O, ⟨A1, c1, rfl, hr1, hc1, hm1, ok1⟩, ⟨A2, c2, rfl, hr2, hc2, hm2, ok2⟩, hO, hown, hbj, hall, hlen⟩ := hrel
              unfold maxLen at hm1 hm2
              generalize hp : L.length = p at *
              generalize hq : M.length = q at *
              have HP := Lib.hid hp
              have HQ := Lib.hid hq
              have HR1 := Lib.hid hr1
              have HR2 := Lib.hid hr2
              have HK1 := Lib.hid ok1
              have HK2 := Lib.hid ok2
              have HO := Lib.hid hO
              have HOwn := Lib.hid hown
              have HAL := Lib.hid hall
              have hOle : O.length ≤ 1000000 := by omega
              clear hp hq hr1 hr2 ok1 ok2 hO hown hall
              obtain ⟨r0, hr0⟩ : ∃ r, r = (decide (0 < p) || decide (0 < q)) := ⟨_, rfl⟩
              have HR0 := Lib.hid hr0
              clear hr0
              go_upto_region 15 with fail
              go_cut [74] (fun s wx => MCut r0 W0 u9 O s wx)
              case first =>
                by_cases h1 : 0 < p
                · have d1 : decide (0 < p) = true := by simp; omega
                  go_wp2
                  go_meet
                  exact ⟨by rw [HR0.out]; simp [h1], HOwn.out, hbj⟩
                · obtain rfl : p = 0 := by omega
                  by_cases h2 : 0 < q
                  · have d2 : decide ((0 : Int) < (q : Int)) = true := by simp; omega
                    go_wp2
                    go_meet
                    exact ⟨by rw [HR0.out]; simp [h2], HOwn.out, hbj⟩
                  · obtain rfl : q = 0 := by omega
                    go_wp2
                    go_meet
                    exact ⟨by rw [HR0.out]; rfl, HOwn.out, hbj⟩
              case rest =>
                clear hbj HOwn
                obtain ⟨rfl, hown, hbj⟩ := hcut
                have HOwn := Lib.hid hown
                clear hown
                cases r0 with
                | false =>
                  have hz : p = 0 ∧ q = 0 := by
                    have h := HR0.out
                    simp at h
                    omega
                  obtain ⟨rfl, rfl⟩ := hz
                  go_wp2
                  go_ret
                  have e1 : L = [] := List.eq_nil_of_length_eq_zero HP.out
                  have e2 : M = [] := List.eq_nil_of_length_eq_zero HQ.out
                  have h := HAL.out
                  rw [e1, e2, List.map_nil, nil_mergeL, List.append_nil] at h
                  exact can_post HBW.out HO.out HOwn.out hbj h
                | true =>
                  have HNZ : Hid (0 < p ∨ 0 < q) := by
                    have h := HR0.out
                    simp at h
                    unfold Hid
                    omega
                  clear HR0
                  obtain ⟨r1, hr1⟩ : ∃ r, r = headA L M := ⟨_, rfl⟩
                  have HA1 := Lib.hid hr1
                  clear hr1
                  go_upto_region 17 with fail
                  go_cut [77] (fun s wx => MCut r1 W0 u9 O s wx)
                  case first =>
                    by_cases hq0 : q = 0
                    · subst hq0
                      refine wp_region_noPanic ?_
                      refine wp_region_held_drew (S := fun _ => True) (by kernel_rfl) (trivial) (fun hHeld => ?_)
                      refine wpAnyH_takeD (some 78) (i := 0) (v := ?vh4_0) rfl rfl (by kernel_rfl) (by kernel_rfl) (by kernel_rfl) (fun _ _ _ h => h) (by rfl) ?hh4_0 (by assumption) ?_
                      case hh4_0 => (intro wq hSw; (try dsimp only at hSw); go_simp; (try (with_reducible rfl)))
                      go_frame
                      refine wpAnyH_takeD (some 79) (i := 1) (v := ?vh4_1) rfl rfl (by kernel_rfl) (by kernel_rfl) (by kernel_rfl) (fun _ _ _ h => h) (by rfl) ?hh4_1 (by assumption) ?_
                      case hh4_1 => (intro wq hSw; (try dsimp only at hSw); go_simp; (try (with_reducible rfl)))
                      go_frame
                      refine wpAnyH_takeD (some 80) (i := 2) (v := ?vh4_2) rfl rfl (by kernel_rfl) (by kernel_rfl) (by kernel_rfl) (fun _ _ _ h => h) (by rfl) ?hh4_2 (by assumption) ?_
                      case hh4_2 => (intro wq hSw; (try dsimp only at hSw); go_simp; (try (with_reducible rfl)))
                      go_frame
                      refine wpAnyH_takeD (some 81) (i := 3) (v := ?vh4_3) rfl rfl (by kernel_rfl) (by kernel_rfl) (by kernel_rfl) (fun _ _ _ h => h) (by rfl) ?hh4_3 (by assumption) ?_
                      case hh4_3 => (intro wq hSw; (try dsimp only at hSw); go_simp; (try (with_reducible rfl)))
                      go_frame
                      refine wpAnyH_skipD (some 82) (i := 4) rfl rfl (by kernel_rfl) (by kernel_rfl) (by kernel_rfl) (fun _ _ _ h => h) (by rfl) (by assumption) ?_
                      go_frame
                      refine wpAnyH_skipD (some 83) (i := 5) rfl rfl (by kernel_rfl) (by kernel_rfl) (by kernel_rfl) (fun _ _ _ h => h) (by rfl) (by assumption) ?_
                      go_frame
                      refine wpAnyH_skipD (some 84) (i := 6) rfl rfl (by kernel_rfl) (by kernel_rfl) (by kernel_rfl) (fun _ _ _ h => h) (by rfl) (by assumption) ?_
                      go_frame
                      refine wpAnyH_skipD (some 85) (i := 7) rfl rfl (by kernel_rfl) (by kernel_rfl) (by kernel_rfl) (fun _ _ _ h => h) (by rfl) (by assumption) ?_
                      go_frame
                      refine wpAnyH_skipD (some 86) (i := 8) rfl rfl (by kernel_rfl) (by kernel_rfl) (by kernel_rfl) (fun _ _ _ h => h) (by rfl) (by assumption) ?_
                      go_frame
                      refine wpAnyH_skipD (some 87) (i := 9) rfl rfl (by kernel_rfl) (by kernel_rfl) (by kernel_rfl) (fun _ _ _ h => h) (by rfl) (by assumption) ?_
                      go_frame
                      refine wpAnyH_skipD (some 88) (i := 10) rfl rfl (by kernel_rfl) (by kernel_rfl) (by kernel_rfl) (fun _ _ _ h => h) (by rfl) (by assumption) ?_
                      go_frame
                      refine wpAnyH_skipD (some 89) (i := 11) rfl rfl (by kernel_rfl) (by kernel_rfl) (by kernel_rfl) (fun _ _ _ h => h) (by rfl) (by assumption) ?_
                      go_frame
                      refine wpAnyH_skipD (some 90) (i := 12) rfl rfl (by kernel_rfl) (by kernel_rfl) (by kernel_rfl) (fun _ _ _ h => h) (by rfl) (by assumption) ?_
                      go_frame
                      refine wpAnyH_skipD (some 91) (i := 13) rfl rfl (by kernel_rfl) (by kernel_rfl) (by kernel_rfl) (fun _ _ _ h => h) (by rfl) (by assumption) ?_
                      go_frame
                      refine wpAnyH_skipD (some 92) (i := 14) rfl rfl (by kernel_rfl) (by kernel_rfl) (by kernel_rfl) (fun _ _ _ h => h) (by rfl) (by assumption) ?_
                      go_frame
                      refine wpAnyH_skipD (some 93) (i := 15) rfl rfl (by kernel_rfl) (by kernel_rfl) (by kernel_rfl) (fun _ _ _ h => h) (by rfl) (by assumption) ?_
                      go_frame
                      refine wpAnyH_skipD (some 94) (i := 16) rfl rfl (by kernel_rfl) (by kernel_rfl) (by kernel_rfl) (fun _ _ _ h => h) (by rfl) (by assumption) ?_
                      go_frame
                      refine wpAnyH_skipD (some 95) (i := 17) rfl rfl (by kernel_rfl) (by kernel_rfl) (by kernel_rfl) (fun _ _ _ h => h) (by rfl) (by assumption) ?_
                      go_frame
                      refine wpAnyH_takeD (some 96) (i := 18) (v := ?vh4_18) rfl rfl (by kernel_rfl) (by kernel_rfl) (by kernel_rfl) (fun _ _ _ h => h) (by rfl) ?hh4_18 (by assumption) ?_
                      case hh4_18 => (intro wq hSw; (try dsimp only at hSw); go_simp; (try (with_reducible rfl)))
                      go_frame
                      refine wpAnyH_takeD (some 77) (i := 19) (v := ?vh4_19) rfl rfl (by kernel_rfl) (by kernel_rfl) (by kernel_rfl) (fun _ _ _ h => h) (by rfl) ?hh4_19 (by assumption) ?_
                      case hh4_19 => (intro wq hSw; (try dsimp only at hSw); go_simp; (try (with_reducible rfl)))
                      go_frame
                      refine wpAnyH_done (by kernel_rfl) ?_ _
                      refine NoPanic.normal ?_
                      go_wp2_with fail
                      go_meet
                      have e2 : M = [] := List.eq_nil_of_length_eq_zero HQ.out
                      exact ⟨by rw [HA1.out, e2]; cases L <;> rfl, own_drew HOwn.out, hbj.drew⟩
                    · have dq : decide ((q : Int) = 0) = false := by simp; omega
                      have dq2 : ((q : Int) == 0) = false := by simp; omega
                      have dq3 : decide (q = 0) = false := by simp; omega
                      have dq4 : (q == 0) = false := by simp; omega
                      obtain ⟨y, M', hM⟩ := cons_of_len HQ.out hq0
                      have HM := Lib.hid hM
                      clear hM
                      by_cases hp0 : p = 0
                      · subst hp0
                        refine wp_region_noPanic ?_
                        refine wp_region_held_drew (S := fun _ => True) (by kernel_rfl) (trivial) (fun hHeld => ?_)
                        refine wpAnyH_takeD (some 78) (i := 0) (v := ?vh5_0) rfl rfl (by kernel_rfl) (by kernel_rfl) (by kernel_rfl) (fun _ _ _ h => h) (by rfl) ?hh5_0 (by assumption) ?_
                        case hh5_0 => (intro wq hSw; (try dsimp only at hSw); go_simp; (try (with_reducible rfl)))
                        go_frame
                        refine wpAnyH_takeD (some 79) (i := 1) (v := ?vh5_1) rfl rfl (by kernel_rfl) (by kernel_rfl) (by kernel_rfl) (fun _ _ _ h => h) (by rfl) ?hh5_1 (by assumption) ?_
                        case hh5_1 => (intro wq hSw; (try dsimp only at hSw); go_simp; (try (with_reducible rfl)))
                        go_frame
                        refine wpAnyH_takeD (some 80) (i := 2) (v := ?vh5_2) rfl rfl (by kernel_rfl) (by kernel_rfl) (by kernel_rfl) (fun _ _ _ h => h) (by rfl) ?hh5_2 (by assumption) ?_
                        case hh5_2 => (intro wq hSw; (try dsimp only at hSw); go_simp; (try (with_reducible rfl)))
                        go_frame
                        refine wpAnyH_takeD (some 81) (i := 3) (v := ?vh5_3) rfl rfl (by kernel_rfl) (by kernel_rfl) (by kernel_rfl) (fun _ _ _ h => h) (by rfl) ?hh5_3 (by assumption) ?_
                        case hh5_3 => (intro wq hSw; (try dsimp only at hSw); go_simp; (try (with_reducible rfl)))
                        go_frame
                        refine wpAnyH_takeD (some 82) (i := 4) (v := ?vh5_4) rfl rfl (by kernel_rfl) (by kernel_rfl) (by kernel_rfl) (fun _ _ _ h => h) (by rfl) ?hh5_4 (by assumption) ?_
                        case hh5_4 => (intro wq hSw; (try dsimp only at hSw); go_simp; (try (with_reducible rfl)))
                        go_frame
                        refine wpAnyH_takeD (some 83) (i := 5) (v := ?vh5_5) rfl rfl (by kernel_rfl) (by kernel_rfl) (by kernel_rfl) (fun _ _ _ h => h) (by rfl) ?hh5_5 (by assumption) ?_
                        case hh5_5 => (intro wq hSw; (try dsimp only at hSw); go_simp; (try (with_reducible rfl)))
                        go_frame
                        refine wpAnyH_takeD (some 84) (i := 6) (v := ?vh5_6) rfl rfl (by kernel_rfl) (by kernel_rfl) (by kernel_rfl) (fun _ _ _ h => h) (by rfl) ?hh5_6 (by assumption) ?_
                        case hh5_6 => (intro wq hSw; (try dsimp only at hSw); go_simp; (try (with_reducible rfl)))
                        go_frame
                        refine wpAnyH_takeD (some 85) (i := 7) (v := ?vh5_7) rfl rfl (by kernel_rfl) (by kernel_rfl) (by kernel_rfl) (fun _ _ _ h => h) (by rfl) ?hh5_7 (by assumption) ?_
                        case hh5_7 => (intro wq hSw; (try dsimp only at hSw); go_simp; (try (with_reducible rfl)))
                        go_frame
                        refine wpAnyH_skipD (some 86) (i := 8) rfl rfl (by kernel_rfl) (by kernel_rfl) (by kernel_rfl) (fun _ _ _ h => h) (by rfl) (by assumption) ?_
                        go_frame
                        refine wpAnyH_skipD (some 87) (i := 9) rfl rfl (by kernel_rfl) (by kernel_rfl) (by kernel_rfl) (fun _ _ _ h => h) (by rfl) (by assumption) ?_
                        go_frame
                        refine wpAnyH_skipD (some 88) (i := 10) rfl rfl (by kernel_rfl) (by kernel_rfl) (by kernel_rfl) (fun _ _ _ h => h) (by rfl) (by assumption) ?_
                        go_frame
                        refine wpAnyH_skipD (some 89) (i := 11) rfl rfl (by kernel_rfl) (by kernel_rfl) (by kernel_rfl) (fun _ _ _ h => h) (by rfl) (by assumption) ?_
                        go_frame
                        refine wpAnyH_skipD (some 90) (i := 12) rfl rfl (by kernel_rfl) (by kernel_rfl) (by kernel_rfl) (fun _ _ _ h => h) (by rfl) (by assumption) ?_
                        go_frame
                        refine wpAnyH_skipD (some 91) (i := 13) rfl rfl (by kernel_rfl) (by kernel_rfl) (by kernel_rfl) (fun _ _ _ h => h) (by rfl) (by assumption) ?_
                        go_frame
                        refine wpAnyH_skipD (some 92) (i := 14) rfl rfl (by kernel_rfl) (by kernel_rfl) (by kernel_rfl) (fun _ _ _ h => h) (by rfl) (by assumption) ?_
                        go_frame
                        refine wpAnyH_skipD (some 93) (i := 15) rfl rfl (by kernel_rfl) (by kernel_rfl) (by kernel_rfl) (fun _ _ _ h => h) (by rfl) (by assumption) ?_
                        go_frame
                        refine wpAnyH_skipD (some 94) (i := 16) rfl rfl (by kernel_rfl) (by kernel_rfl) (by kernel_rfl) (fun _ _ _ h => h) (by rfl) (by assumption) ?_
                        go_frame
                        refine wpAnyH_takeD (some 95) (i := 17) (v := ?vh5_17) rfl rfl (by kernel_rfl) (by kernel_rfl) (by kernel_rfl) (fun _ _ _ h => h) (by rfl) ?hh5_17 (by assumption) ?_
                        case hh5_17 => (intro wq hSw; (try dsimp only at hSw); go_simp; (try (with_reducible rfl)))
                        go_frame
                        refine wpAnyH_takeD (some 96) (i := 18) (v := ?vh5_18) rfl rfl (by kernel_rfl) (by kernel_rfl) (by kernel_rfl) (fun _ _ _ h => h) (by rfl) ?hh5_18 (by assumption) ?_
                        case hh5_18 => (intro wq hSw; (try dsimp only at hSw); go_simp; (try (with_reducible rfl)))
                        go_frame
                        refine wpAnyH_takeD (some 77) (i := 19) (v := ?vh5_19) rfl rfl (by kernel_rfl) (by kernel_rfl) (by kernel_rfl) (fun _ _ _ h => h) (by rfl) ?hh5_19 (by assumption) ?_
                        case hh5_19 => (intro wq hSw; (try dsimp only at hSw); go_simp; (try (with_reducible rfl)))
                        go_frame
                        refine wpAnyH_done (by kernel_rfl) ?_ _
                        refine NoPanic.normal ?_
                        go_wp2_with fail
                        go_meet
                        have e1 : L = [] := List.eq_nil_of_length_eq_zero HP.out
                        exact ⟨by rw [HA1.out, e1, HM.out]; rfl, own_drew HOwn.out, hbj.drew⟩
                      · have dp : decide ((0 : Int) < (p : Int)) = true := by simp; omega
                        have dp2 : decide (0 < p) = true := by simp; omega
                        obtain ⟨x, L', hL⟩ := cons_of_len HP.out hp0
                        have HL := Lib.hid hL
                        clear hL
                        rw [HL.out] at HR1
                        rw [HM.out] at HR2
                        obtain ⟨b1, o1, rfl⟩ := HR1.out.sgFirst
                        obtain ⟨b2, o2, rfl⟩ := HR2.out.sgFirst
                        have ip : 0 < p := by omega
                        have iq : 0 < q := by omega
                        have HRows : Hid (∀ W, Below W0.heap.size W0 W → rowAt W b1 o1 22 = some x.vote.cells ∧ rowAt W b2 o2 22 = some y.vote.cells) := fun W hW => ⟨(HR1.out.below hW).sg0.1, (HR2.out.below hW).sg0.1⟩
                        have HLe : Hid (∀ W, Calls Tryz.prog 62 #[x.vote.val, y.vote.val] W (BoolPost W (lessV x.vote y.vote))) := fun W => rvless_any x.vote y.vote W
                        refine wp_region_noPanic ?_
                        refine wp_region_held_drew (S := fun w' => rowAt w' b1 o1 22 = some x.vote.cells ∧ rowAt w' b2 o2 22 = some y.vote.cells) (by kernel_rfl) (HRows.out _ hbj.drew) (fun hHeld => ?_)
                        refine wpAnyH_takeD (some 78) (i := 0) (v := ?vh6_0) rfl rfl (by kernel_rfl) (by kernel_rfl) (by kernel_rfl) (fun _ _ _ h => h) (by rfl) ?hh6_0 (by assumption) ?_
                        case hh6_0 => (intro wq hSw; (try dsimp only at hSw); go_simp; (try (with_reducible rfl)))
                        go_frame
                        refine wpAnyH_takeD (some 79) (i := 1) (v := ?vh6_1) rfl rfl (by kernel_rfl) (by kernel_rfl) (by kernel_rfl) (fun _ _ _ h => h) (by rfl) ?hh6_1 (by assumption) ?_
                        case hh6_1 => (intro wq hSw; (try dsimp only at hSw); go_simp; (try (with_reducible rfl)))
                        go_frame
                        refine wpAnyH_takeD (some 80) (i := 2) (v := ?vh6_2) rfl rfl (by kernel_rfl) (by kernel_rfl) (by kernel_rfl) (fun _ _ _ h => h) (by rfl) ?hh6_2 (by assumption) ?_
                        case hh6_2 => (intro wq hSw; (try dsimp only at hSw); go_simp; (try (with_reducible rfl)))
                        go_frame
                        refine wpAnyH_takeD (some 81) (i := 3) (v := ?vh6_3) rfl rfl (by kernel_rfl) (by kernel_rfl) (by kernel_rfl) (fun _ _ _ h => h) (by rfl) ?hh6_3 (by assumption) ?_
                        case hh6_3 => (intro wq hSw; (try dsimp only at hSw); go_simp; (try (with_reducible rfl)))
                        go_frame
                        refine wpAnyH_takeD (some 82) (i := 4) (v := ?vh6_4) rfl rfl (by kernel_rfl) (by kernel_rfl) (by kernel_rfl) (fun _ _ _ h => h) (by rfl) ?hh6_4 (by assumption) ?_
                        case hh6_4 => (intro wq hSw; (try dsimp only at hSw); go_simp; (try (with_reducible rfl)))
                        go_frame
                        refine wpAnyH_takeD (some 83) (i := 5) (v := ?vh6_5) rfl rfl (by kernel_rfl) (by kernel_rfl) (by kernel_rfl) (fun _ _ _ h => h) (by rfl) ?hh6_5 (by assumption) ?_
                        case hh6_5 => (intro wq hSw; (try dsimp only at hSw); go_simp; (try (with_reducible rfl)))
                        go_frame
                        refine wpAnyH_takeD (some 84) (i := 6) (v := ?vh6_6) rfl rfl (by kernel_rfl) (by kernel_rfl) (by kernel_rfl) (fun _ _ _ h => h) (by rfl) ?hh6_6 (by assumption) ?_
                        case hh6_6 => (intro wq hSw; (try dsimp only at hSw); go_simp; (try (with_reducible rfl)))
                        go_frame
                        refine wpAnyH_takeD (some 85) (i := 7) (v := ?vh6_7) rfl rfl (by kernel_rfl) (by kernel_rfl) (by kernel_rfl) (fun _ _ _ h => h) (by rfl) ?hh6_7 (by assumption) ?_
                        case hh6_7 => (intro wq hSw; (try dsimp only at hSw); go_simp; (try (with_reducible rfl)))
                        go_frame
                        refine wpAnyH_takeD (some 86) (i := 8) (v := ?vh6_8) rfl rfl (by kernel_rfl) (by kernel_rfl) (by kernel_rfl) (fun _ _ _ h => h) (by rfl) ?hh6_8 (by assumption) ?_
                        case hh6_8 => (intro wq hSw; (try dsimp only at hSw); go_simp; (try (with_reducible rfl)))
                        go_frame
                        refine wpAnyH_takeD (some 87) (i := 9) (v := ?vh6_9) rfl rfl (by kernel_rfl) (by kernel_rfl) (by kernel_rfl) (fun _ _ _ h => h) (by rfl) ?hh6_9 (by assumption) ?_
                        case hh6_9 => (intro wq hSw; (try dsimp only at hSw); go_simp; (try (with_reducible rfl)))
                        go_frame
                        refine wpAnyH_takeD (some 88) (i := 10) (v := ?vh6_10) rfl rfl (by kernel_rfl) (by kernel_rfl) (by kernel_rfl) (fun _ _ _ h => h) (by rfl) ?hh6_10 (by assumption) ?_
                        case hh6_10 => (intro wq hSw; (try dsimp only at hSw); go_simp; (try (with_reducible rfl)))
                        go_frame
                        refine wpAnyH_takeD (some 89) (i := 11) (v := ?vh6_11) rfl rfl (by kernel_rfl) (by kernel_rfl) (by kernel_rfl) (fun _ _ _ h => h) (by rfl) ?hh6_11 (by assumption) ?_
                        case hh6_11 => (intro wq hSw; (try dsimp only at hSw); go_simp; (try (with_reducible rfl)))
                        go_frame
                        refine wpAnyH_takeD (some 90) (i := 12) (v := ?vh6_12) rfl rfl (by kernel_rfl) (by kernel_rfl) (by kernel_rfl) (fun _ _ _ h => h) (by rfl) ?hh6_12 (by assumption) ?_
                        case hh6_12 => (intro wq hSw; (try dsimp only at hSw); go_simp; (try (with_reducible rfl)))
                        go_frame
                        refine wpAnyH_takeD (some 91) (i := 13) (v := ?vh6_13) rfl rfl (by kernel_rfl) (by kernel_rfl) (by kernel_rfl) (fun _ _ _ h => h) (by rfl) ?hh6_13 (by assumption) ?_
                        case hh6_13 => (intro wq hSw; (try dsimp only at hSw); go_simp; (try (with_reducible rfl)))
                        go_frame
                        refine wpAnyH_takeD (some 92) (i := 14) (v := ?vh6_14) rfl rfl (by kernel_rfl) (by kernel_rfl) (by kernel_rfl) (fun _ _ _ h => h) (by rfl) ?hh6_14 (by assumption) ?_
                        case hh6_14 => (intro wq hSw; (try dsimp only at hSw); go_simp; (try (with_reducible rfl)))
                        go_frame
                        refine wpAnyH_takeD (some 93) (i := 15) (v := ?vh6_15) rfl rfl (by kernel_rfl) (by kernel_rfl) (by kernel_rfl) (fun _ _ _ h => h) (by rfl) ?hh6_15 (by assumption) ?_
                        case hh6_15 => (intro wq hSw; (try dsimp only at hSw); go_simp; (try (with_reducible rfl)))
                        go_frame
                        refine wpAnyH_ready (rs := [16]) (by kernel_rfl) (by simp) ?_
                        refine AllReadyH.cons rfl (fun K hK => ?_) AllReadyH.nil
                        go_simp
                        refine (HLe.out _).mono ?_; rintro en w2 ⟨rfl, hb2⟩; have hbj2 := hbj.drew.trans (hb2.mono hbj.size); have HOwn2 := Lib.hid (own_below (own_drew HOwn.out) hb2 (Nat.le_refl _))
                        go_wp2_with fail
                        refine hK.out _ _ (HRows.out _ hbj2) (fun hHeld => ?_)
                        clear hK K
                        try go_frame
                        refine wpAnyH_takeD (some 95) (i := 17) (v := ?vh6_17) rfl rfl (by kernel_rfl) (by kernel_rfl) (by kernel_rfl) (fun _ _ _ h => h) (by rfl) ?hh6_17 (by assumption) ?_
                        case hh6_17 => (intro wq hSw; (try dsimp only at hSw); go_simp; (try (with_reducible rfl)))
                        go_frame
                        refine wpAnyH_takeD (some 96) (i := 18) (v := ?vh6_18) rfl rfl (by kernel_rfl) (by kernel_rfl) (by kernel_rfl) (fun _ _ _ h => h) (by rfl) ?hh6_18 (by assumption) ?_
                        case hh6_18 => (intro wq hSw; (try dsimp only at hSw); go_simp; (try (with_reducible rfl)))
                        go_frame
                        refine wpAnyH_takeD (some 77) (i := 19) (v := ?vh6_19) rfl rfl (by kernel_rfl) (by kernel_rfl) (by kernel_rfl) (fun _ _ _ h => h) (by rfl) ?hh6_19 (by assumption) ?_
                        case hh6_19 => (intro wq hSw; (try dsimp only at hSw); go_simp; (try (with_reducible rfl)))
                        go_frame
                        refine wpAnyH_done (by kernel_rfl) ?_ _
                        refine NoPanic.normal ?_
                        go_wp2_with fail
                        go_meet
                        exact ⟨by rw [HA1.out, HL.out, HM.out]; rfl, HOwn2.out, hbj2⟩
                  case rest =>
                    clear hbj HOwn
                    obtain ⟨rfl, hown, hbj⟩ := hcut
                    have HOwn := Lib.hid hown
                    clear hown
                    cases r1 with
                    | true =>
                      have hp0 : ¬ p = 0 := by
                        intro h
                        have e1 : L = [] := List.eq_nil_of_length_eq_zero (HP.out.trans h)
                        have hq0 : ¬ q = 0 := by have := HNZ.out; omega
                        obtain ⟨y, M', hM⟩ := cons_of_len HQ.out hq0
                        have := HA1.out
                        rw [e1, hM] at this
                        cases this
                      obtain ⟨x, L', hL⟩ := cons_of_len HP.out hp0
                      have HAL' : Hid ((O ++ [x]).map Sg.vs ++ mergeL (L'.map Sg.vs) (M.map Sg.vs) = canF (l.map Sg.vs)) := by
                        have h := HAL.out
                        unfold Hid
                        rw [hL, List.map_cons] at h
                        rw [List.map_append, List.append_assoc]
                        cases hM : M with
                        | nil => rw [hM, List.map_nil, mergeL_nil] at h; rw [List.map_nil, mergeL_nil]; exact h
                        | cons y M' =>
                          have h1 := HA1.out
                          rw [hL, hM] at h1
                          have h2 : lessV x.vs.1 y.vs.1 = true := h1.symm
                          rw [hM, List.map_cons, mergeL_a h2] at h
                          exact h
                      have HL := Lib.hid hL
                      clear hL HA1
                      rw [HL.out] at HR1 HK1 HP
                      obtain ⟨p', rfl⟩ : ∃ p', p = p' + 1 := ⟨L'.length, HP.out.symm⟩
                      have HP' : Hid (L'.length = p') := Nat.succ.inj HP.out
                      obtain ⟨b1, o1, rfl⟩ := HR1.out.sgFirst
                      have ip : (0 : Int) < (p' : Int) + 1 := by omega
                      have ip1 : (1 : Int) ≤ (p' : Int) + 1 := by omega
                      have ic1 : (1 : Int) ≤ (c1 : Int) := by omega
                      have hpc : ((p' : Int) + 1) ≤ (c1 : Int) := by omega
                      have hrow : rowAt wc b1 o1 23 = some x.cells := (HR1.out.below hbj).sg0.2.1
                      go_wp2_with ((first
                        | (refine wpList_build1 rfl 23 34 (.tmp 100) rfl x.cells rfl Tryz.underlying23 (by rw [Sg.size_cells]; kernel_rfl) (by rw [Sg.size_cells]; omega) (by rw [Sg.size_cells]; omega) ?_)
                        | (at_builtin; refine wpList_app rfl (.tmp 97) (.tmp 101) _ rfl W0.heap.size 34 (.agg zeroSc) 23 88 Tryz.underlying23 info_signed rfl (by decide) u9 O.length (O.flatMap sgc) rfl ?r0 (wc.heap.size + 1) (some ⟨wc.heap.size, 0, none⟩) 1 1 (sgc x) rfl ?r1 ?r2 ?r3 ?r4 ?r5 ?r6 ?_)))
                      case r0 => exact HOwn.out.alloc _
                      case r1 => rw [Array.length_toList]; exact x.size_cells
                      case r2 => exact Rd.mk (by omega) (fun j u hu => by rw [Nat.zero_add, (Blk.new wc _ _).cell]; simpa using hu)
                      case r3 => exact fun u hu => x.one u hu
                      case r4 => omega
                      case r5 => unfold maxLen; omega
                      case r6 => have := hbj.size; simp; omega
                      intro v3 w3 hown3 hg3 hat3
                      have hbj3 : Below W0.heap.size W0 w3 := below_own (hbj.alloc hbj.size _) (HOwn.out.alloc _) hg3
                      have HOwn3 := Lib.hid hown3
                      clear hown3 hg3 hat3 hrow
                      go_wp2
                      go_roundw
                      case rel =>
                        refine ⟨L', M, O ++ [x], ?_, ⟨A2, c2, by rw [HQ.out], HR2.out, by rw [HQ.out]; exact hc2, hm2, HK2.out⟩, ?_, ?_, hbj3, ?_, by rw [List.length_append, HP'.out, HQ.out]; simp; omega⟩
                        · have h := SlOk.tail HR1.out (c := c1) (by rw [HP'.out]; exact hc1) hm1 HK1.out
                          rw [HP'.out] at h
                          simpa using h
                        · intro s hs
                          rcases List.mem_append.1 hs with hs | hs
                          · exact HO.out s hs
                          · rw [List.mem_singleton.1 hs]
                            exact HK1.out x (List.mem_cons_self)
                        · have h := HOwn3.out
                          rw [List.length_append, List.flatMap_append]
                          simpa using h
                        · exact HAL'.out
                      case measure => simp [lenOfV]
                    | false =>
                      have hq0 : ¬ q = 0 := by
                        intro h
                        have e2 : M = [] := List.eq_nil_of_length_eq_zero (HQ.out.trans h)
                        have := HA1.out
                        rw [e2] at this
                        cases L <;> cases this
                      obtain ⟨y, M', hM⟩ := cons_of_len HQ.out hq0
                      have HM := Lib.hid hM
                      clear hM
                      rw [HM.out] at HR2 HK2
                      obtain ⟨b2, o2, rfl⟩ := HR2.out.sgFirst
                      have iq : 0 < q := by omega
                      obtain ⟨r2, hr2⟩ : ∃ r, r = headB L M := ⟨_, rfl⟩
                      have HB1 := Lib.hid hr2
                      clear hr2
                      go_upto_region 20 with fail
                      go_cut [105] (fun s wx => MCut r2 W0 u9 O s wx)
                      case first =>
                        by_cases hp0 : p = 0
                        · subst hp0
                          refine wp_region_noPanic ?_
                          refine wp_region_held_drew (S := fun _ => True) (by kernel_rfl) (trivial) (fun hHeld => ?_)
                          refine wpAnyH_takeD (some 106) (i := 0) (v := ?vh7_0) rfl rfl (by kernel_rfl) (by kernel_rfl) (by kernel_rfl) (fun _ _ _ h => h) (by rfl) ?hh7_0 (by assumption) ?_
                          case hh7_0 => (intro wq hSw; (try dsimp only at hSw); go_simp; (try (with_reducible rfl)))
                          go_frame
                          refine wpAnyH_takeD (some 107) (i := 1) (v := ?vh7_1) rfl rfl (by kernel_rfl) (by kernel_rfl) (by kernel_rfl) (fun _ _ _ h => h) (by rfl) ?hh7_1 (by assumption) ?_
                          case hh7_1 => (intro wq hSw; (try dsimp only at hSw); go_simp; (try (with_reducible rfl)))
                          go_frame
                          refine wpAnyH_takeD (some 108) (i := 2) (v := ?vh7_2) rfl rfl (by kernel_rfl) (by kernel_rfl) (by kernel_rfl) (fun _ _ _ h => h) (by rfl) ?hh7_2 (by assumption) ?_
                          case hh7_2 => (intro wq hSw; (try dsimp only at hSw); go_simp; (try (with_reducible rfl)))
                          go_frame
                          refine wpAnyH_takeD (some 109) (i := 3) (v := ?vh7_3) rfl rfl (by kernel_rfl) (by kernel_rfl) (by kernel_rfl) (fun _ _ _ h => h) (by rfl) ?hh7_3 (by assumption) ?_
                          case hh7_3 => (intro wq hSw; (try dsimp only at hSw); go_simp; (try (with_reducible rfl)))
                          go_frame
                          refine wpAnyH_skipD (some 110) (i := 4) rfl rfl (by kernel_rfl) (by kernel_rfl) (by kernel_rfl) (fun _ _ _ h => h) (by rfl) (by assumption) ?_
                          go_frame
                          refine wpAnyH_skipD (some 111) (i := 5) rfl rfl (by kernel_rfl) (by kernel_rfl) (by kernel_rfl) (fun _ _ _ h => h) (by rfl) (by assumption) ?_
                          go_frame
                          refine wpAnyH_skipD (some 112) (i := 6) rfl rfl (by kernel_rfl) (by kernel_rfl) (by kernel_rfl) (fun _ _ _ h => h) (by rfl) (by assumption) ?_
                          go_frame
                          refine wpAnyH_skipD (some 113) (i := 7) rfl rfl (by kernel_rfl) (by kernel_rfl) (by kernel_rfl) (fun _ _ _ h => h) (by rfl) (by assumption) ?_
                          go_frame
                          refine wpAnyH_skipD (some 114) (i := 8) rfl rfl (by kernel_rfl) (by kernel_rfl) (by kernel_rfl) (fun _ _ _ h => h) (by rfl) (by assumption) ?_
                          go_frame
                          refine wpAnyH_skipD (some 115) (i := 9) rfl rfl (by kernel_rfl) (by kernel_rfl) (by kernel_rfl) (fun _ _ _ h => h) (by rfl) (by assumption) ?_
                          go_frame
                          refine wpAnyH_skipD (some 116) (i := 10) rfl rfl (by kernel_rfl) (by kernel_rfl) (by kernel_rfl) (fun _ _ _ h => h) (by rfl) (by assumption) ?_
                          go_frame
                          refine wpAnyH_skipD (some 117) (i := 11) rfl rfl (by kernel_rfl) (by kernel_rfl) (by kernel_rfl) (fun _ _ _ h => h) (by rfl) (by assumption) ?_
                          go_frame
                          refine wpAnyH_skipD (some 118) (i := 12) rfl rfl (by kernel_rfl) (by kernel_rfl) (by kernel_rfl) (fun _ _ _ h => h) (by rfl) (by assumption) ?_
                          go_frame
                          refine wpAnyH_takeD (some 119) (i := 13) (v := ?vh7_13) rfl rfl (by kernel_rfl) (by kernel_rfl) (by kernel_rfl) (fun _ _ _ h => h) (by rfl) ?hh7_13 (by assumption) ?_
                          case hh7_13 => (intro wq hSw; (try dsimp only at hSw); go_simp; (try (with_reducible rfl)))
                          go_frame
                          refine wpAnyH_takeD (some 105) (i := 14) (v := ?vh7_14) rfl rfl (by kernel_rfl) (by kernel_rfl) (by kernel_rfl) (fun _ _ _ h => h) (by rfl) ?hh7_14 (by assumption) ?_
                          case hh7_14 => (intro wq hSw; (try dsimp only at hSw); go_simp; (try (with_reducible rfl)))
                          go_frame
                          refine wpAnyH_done (by kernel_rfl) ?_ _
                          refine NoPanic.normal ?_
                          go_wp2_with fail
                          go_meet
                          have e1 : L = [] := List.eq_nil_of_length_eq_zero HP.out
                          exact ⟨by rw [HB1.out, e1]; rfl, own_drew HOwn.out, hbj.drew⟩
                        · have dp : decide ((p : Int) = 0) = false := by simp; omega
                          have dp2 : ((p : Int) == 0) = false := by simp; omega
                          have dp3 : decide (p = 0) = false := by simp; omega
                          have dp4 : (p == 0) = false := by simp; omega
                          obtain ⟨x, L', hL⟩ := cons_of_len HP.out hp0
                          have HL := Lib.hid hL
                          clear hL
                          rw [HL.out] at HR1
                          obtain ⟨b1, o1, rfl⟩ := HR1.out.sgFirst
                          have ip : 0 < p := by omega
                          have HRows : Hid (∀ W, Below W0.heap.size W0 W → rowAt W b1 o1 22 = some x.vote.cells ∧ rowAt W b2 o2 22 = some y.vote.cells) := fun W hW => ⟨(HR1.out.below hW).sg0.1, (HR2.out.below hW).sg0.1⟩
                          have HLe : Hid (∀ W, Calls Tryz.prog 62 #[y.vote.val, x.vote.val] W (BoolPost W (lessV y.vote x.vote))) := fun W => rvless_any y.vote x.vote W
                          refine wp_region_noPanic ?_
                          refine wp_region_held_drew (S := fun w' => rowAt w' b1 o1 22 = some x.vote.cells ∧ rowAt w' b2 o2 22 = some y.vote.cells) (by kernel_rfl) (HRows.out _ hbj.drew) (fun hHeld => ?_)
                          refine wpAnyH_takeD (some 106) (i := 0) (v := ?vh8_0) rfl rfl (by kernel_rfl) (by kernel_rfl) (by kernel_rfl) (fun _ _ _ h => h) (by rfl) ?hh8_0 (by assumption) ?_
                          case hh8_0 => (intro wq hSw; (try dsimp only at hSw); go_simp; (try (with_reducible rfl)))
                          go_frame
                          refine wpAnyH_takeD (some 107) (i := 1) (v := ?vh8_1) rfl rfl (by kernel_rfl) (by kernel_rfl) (by kernel_rfl) (fun _ _ _ h => h) (by rfl) ?hh8_1 (by assumption) ?_
                          case hh8_1 => (intro wq hSw; (try dsimp only at hSw); go_simp; (try (with_reducible rfl)))
                          go_frame
                          refine wpAnyH_takeD (some 108) (i := 2) (v := ?vh8_2) rfl rfl (by kernel_rfl) (by kernel_rfl) (by kernel_rfl) (fun _ _ _ h => h) (by rfl) ?hh8_2 (by assumption) ?_
                          case hh8_2 => (intro wq hSw; (try dsimp only at hSw); go_simp; (try (with_reducible rfl)))
                          go_frame
                          refine wpAnyH_takeD (some 109) (i := 3) (v := ?vh8_3) rfl rfl (by kernel_rfl) (by kernel_rfl) (by kernel_rfl) (fun _ _ _ h => h) (by rfl) ?hh8_3 (by assumption) ?_
                          case hh8_3 => (intro wq hSw; (try dsimp only at hSw); go_simp; (try (with_reducible rfl)))
                          go_frame
                          refine wpAnyH_takeD (some 110) (i := 4) (v := ?vh8_4) rfl rfl (by kernel_rfl) (by kernel_rfl) (by kernel_rfl) (fun _ _ _ h => h) (by rfl) ?hh8_4 (by assumption) ?_
                          case hh8_4 => (intro wq hSw; (try dsimp only at hSw); go_simp; (try (with_reducible rfl)))
                          go_frame
                          refine wpAnyH_takeD (some 111) (i := 5) (v := ?vh8_5) rfl rfl (by kernel_rfl) (by kernel_rfl) (by kernel_rfl) (fun _ _ _ h => h) (by rfl) ?hh8_5 (by assumption) ?_
                          case hh8_5 => (intro wq hSw; (try dsimp only at hSw); go_simp; (try (with_reducible rfl)))
                          go_frame
                          refine wpAnyH_takeD (some 112) (i := 6) (v := ?vh8_6) rfl rfl (by kernel_rfl) (by kernel_rfl) (by kernel_rfl) (fun _ _ _ h => h) (by rfl) ?hh8_6 (by assumption) ?_
                          case hh8_6 => (intro wq hSw; (try dsimp only at hSw); go_simp; (try (with_reducible rfl)))
                          go_frame
                          refine wpAnyH_takeD (some 113) (i := 7) (v := ?vh8_7) rfl rfl (by kernel_rfl) (by kernel_rfl) (by kernel_rfl) (fun _ _ _ h => h) (by rfl) ?hh8_7 (by assumption) ?_
                          case hh8_7 => (intro wq hSw; (try dsimp only at hSw); go_simp; (try (with_reducible rfl)))
                          go_frame
                          refine wpAnyH_takeD (some 114) (i := 8) (v := ?vh8_8) rfl rfl (by kernel_rfl) (by kernel_rfl) (by kernel_rfl) (fun _ _ _ h => h) (by rfl) ?hh8_8 (by assumption) ?_
                          case hh8_8 => (intro wq hSw; (try dsimp only at hSw); go_simp; (try (with_reducible rfl)))
                          go_frame
                          refine wpAnyH_takeD (some 115) (i := 9) (v := ?vh8_9) rfl rfl (by kernel_rfl) (by kernel_rfl) (by kernel_rfl) (fun _ _ _ h => h) (by rfl) ?hh8_9 (by assumption) ?_
                          case hh8_9 => (intro wq hSw; (try dsimp only at hSw); go_simp; (try (with_reducible rfl)))
                          go_frame
                          refine wpAnyH_takeD (some 116) (i := 10) (v := ?vh8_10) rfl rfl (by kernel_rfl) (by kernel_rfl) (by kernel_rfl) (fun _ _ _ h => h) (by rfl) ?hh8_10 (by assumption) ?_
                          case hh8_10 => (intro wq hSw; (try dsimp only at hSw); go_simp; (try (with_reducible rfl)))
                          go_frame
                          refine wpAnyH_takeD (some 117) (i := 11) (v := ?vh8_11) rfl rfl (by kernel_rfl) (by kernel_rfl) (by kernel_rfl) (fun _ _ _ h => h) (by rfl) ?hh8_11 (by assumption) ?_
                          case hh8_11 => (intro wq hSw; (try dsimp only at hSw); go_simp; (try (with_reducible rfl)))
                          go_frame
                          refine wpAnyH_ready (rs := [12]) (by kernel_rfl) (by simp) ?_
                          refine AllReadyH.cons rfl (fun K hK => ?_) AllReadyH.nil
                          go_simp
                          refine (HLe.out _).mono ?_; rintro en w2 ⟨rfl, hb2⟩; have hbj2 := hbj.drew.trans (hb2.mono hbj.size); have HOwn2 := Lib.hid (own_below (own_drew HOwn.out) hb2 (Nat.le_refl _))
                          go_wp2_with fail
                          refine hK.out _ _ (HRows.out _ hbj2) (fun hHeld => ?_)
                          clear hK K
                          try go_frame
                          refine wpAnyH_takeD (some 119) (i := 13) (v := ?vh8_13) rfl rfl (by kernel_rfl) (by kernel_rfl) (by kernel_rfl) (fun _ _ _ h => h) (by rfl) ?hh8_13 (by assumption) ?_
                          case hh8_13 => (intro wq hSw; (try dsimp only at hSw); go_simp; (try (with_reducible rfl)))
                          go_frame
                          refine wpAnyH_takeD (some 105) (i := 14) (v := ?vh8_14) rfl rfl (by kernel_rfl) (by kernel_rfl) (by kernel_rfl) (fun _ _ _ h => h) (by rfl) ?hh8_14 (by assumption) ?_
                          case hh8_14 => (intro wq hSw; (try dsimp only at hSw); go_simp; (try (with_reducible rfl)))
                          go_frame
                          refine wpAnyH_done (by kernel_rfl) ?_ _
                          refine NoPanic.normal ?_
                          go_wp2_with fail
                          go_meet
                          exact ⟨by rw [HB1.out, HL.out, HM.out]; rfl, HOwn2.out, hbj2⟩
                      case rest =>
                        clear hbj HOwn
                        obtain ⟨rfl, hown, hbj⟩ := hcut
                        have HOwn := Lib.hid hown
                        clear hown
                        cases r2 with
                        | true =>
                          have HAL' : Hid ((O ++ [y]).map Sg.vs ++ mergeL (L.map Sg.vs) (M'.map Sg.vs) = canF (l.map Sg.vs)) := by
                            have h := HAL.out
                            unfold Hid
                            rw [HM.out, List.map_cons] at h
                            rw [List.map_append, List.append_assoc]
                            cases hL : L with
                            | nil => rw [hL, List.map_nil, nil_mergeL] at h; rw [List.map_nil, nil_mergeL]; exact h
                            | cons x L' =>
                              have h1 := HA1.out
                              have h2 := HB1.out
                              rw [hL, HM.out] at h1 h2
                              have h3 : lessV x.vs.1 y.vs.1 = false := h1.symm
                              have h4 : lessV y.vs.1 x.vs.1 = true := h2.symm
                              rw [hL, List.map_cons, mergeL_b h3 h4] at h
                              exact h
                          clear HA1 HB1
                          rw [HM.out] at HQ
                          obtain ⟨q', rfl⟩ : ∃ q', q = q' + 1 := ⟨M'.length, HQ.out.symm⟩
                          have HQ' : Hid (M'.length = q') := Nat.succ.inj HQ.out
                          have iq0 : (0 : Int) < (q' : Int) + 1 := by omega
                          have iq1 : (1 : Int) ≤ (q' : Int) + 1 := by omega
                          have ic2 : (1 : Int) ≤ (c2 : Int) := by omega
                          have hqc : ((q' : Int) + 1) ≤ (c2 : Int) := by omega
                          have hrow : rowAt wc b2 o2 23 = some y.cells := (HR2.out.below hbj).sg0.2.1
                          go_wp2_with ((first
                            | (refine wpList_build1 rfl 23 34 (.tmp 123) rfl y.cells rfl Tryz.underlying23 (by rw [Sg.size_cells]; kernel_rfl) (by rw [Sg.size_cells]; omega) (by rw [Sg.size_cells]; omega) ?_)
                            | (at_builtin; refine wpList_app rfl (.tmp 120) (.tmp 124) _ rfl W0.heap.size 34 (.agg zeroSc) 23 88 Tryz.underlying23 info_signed rfl (by decide) u9 O.length (O.flatMap sgc) rfl ?r0 (wc.heap.size + 1) (some ⟨wc.heap.size, 0, none⟩) 1 1 (sgc y) rfl ?r1 ?r2 ?r3 ?r4 ?r5 ?r6 ?_)))
                          case r0 => exact HOwn.out.alloc _
                          case r1 => rw [Array.length_toList]; exact y.size_cells
                          case r2 => exact Rd.mk (by omega) (fun j u hu => by rw [Nat.zero_add, (Blk.new wc _ _).cell]; simpa using hu)
                          case r3 => exact fun u hu => y.one u hu
                          case r4 => omega
                          case r5 => unfold maxLen; omega
                          case r6 => have := hbj.size; simp; omega
                          intro v3 w3 hown3 hg3 hat3
                          have hbj3 : Below W0.heap.size W0 w3 := below_own (hbj.alloc hbj.size _) (HOwn.out.alloc _) hg3
                          have HOwn3 := Lib.hid hown3
                          clear hown3 hg3 hat3 hrow
                          go_wp2
                          go_roundw
                          case rel =>
                            refine ⟨L, M', O ++ [y], ⟨A1, c1, by rw [HP.out], HR1.out, by rw [HP.out]; exact hc1, hm1, HK1.out⟩, ?_, ?_, ?_, hbj3, ?_, by rw [List.length_append, HP.out, HQ'.out]; simp; omega⟩
                            · have h := SlOk.tail HR2.out (c := c2) (by rw [HQ'.out]; exact hc2) hm2 HK2.out
                              rw [HQ'.out] at h
                              simpa using h
                            · intro s hs
                              rcases List.mem_append.1 hs with hs | hs
                              · exact HO.out s hs
                              · rw [List.mem_singleton.1 hs]
                                exact HK2.out y (List.mem_cons_self)
                            · have h := HOwn3.out
                              rw [List.length_append, List.flatMap_append]
                              simpa using h
                            · exact HAL'.out
                          case measure => simp [lenOfV]
                        | false =>
                          have hp0 : ¬ p = 0 := by
                            intro h
                            have e1 : L = [] := List.eq_nil_of_length_eq_zero (HP.out.trans h)
                            have := HB1.out
                            rw [e1] at this
                            cases this
                          obtain ⟨x, L', hL⟩ := cons_of_len HP.out hp0
                          have HL := Lib.hid hL
                          clear hL
                          have H3 : Hid (lessV x.vs.1 y.vs.1 = false) := by
                            have h1 := HA1.out
                            rw [HL.out, HM.out] at h1
                            exact h1.symm
                          have H4 : Hid (lessV y.vs.1 x.vs.1 = false) := by
                            have h1 := HB1.out
                            rw [HL.out, HM.out] at h1
                            exact h1.symm
                          clear HA1 HB1
                          rw [HL.out] at HR1 HK1
                          obtain ⟨b1, o1, rfl⟩ := HR1.out.sgFirst
                          have ip : 0 < p := by omega
                          obtain ⟨r3, hr3⟩ : ∃ r, r = bytesLe x.sig y.sig := ⟨_, rfl⟩
                          have HB3 := Lib.hid hr3
                          clear hr3
                          have hxm := HK1.out x List.mem_cons_self
                          have hym := HK2.out y List.mem_cons_self
                          have HRows : Hid (∀ W, Below W0.heap.size W0 W → W.cell? ⟨b1, o1 + 22, none⟩ = some (.slice x.A x.sig.length x.cap) ∧ W.cell? ⟨b2, o2 + 22, none⟩ = some (.slice y.A y.sig.length y.cap)
                              ∧ (convert 32 9 (.slice x.A x.sig.length x.cap)).run Tryz.prog W = .ok (.string ⟨x.sig.toArray⟩) W ∧ (convert 32 9 (.slice y.A y.sig.length y.cap)).run Tryz.prog W = .ok (.string ⟨y.sig.toArray⟩) W) :=
                            fun W hW => ⟨(HR1.out.below hW).sg0.2.2, (HR2.out.below hW).sg0.2.2, conv_str W _ _ _ _ (hxm.1.2.1.below hW), conv_str W _ _ _ _ (hym.1.2.1.below hW)⟩
                          clear hxm hym
                          go_upto_region 23 with fail
                          go_cut [128] (fun s wx => MCut r3 W0 u9 O s wx)
                          case first =>
                            refine wp_region_noPanic ?_
                            refine wp_region_held_drew (S := fun w' => w'.cell? ⟨b1, o1 + 22, none⟩ = some (.slice x.A x.sig.length x.cap) ∧ w'.cell? ⟨b2, o2 + 22, none⟩ = some (.slice y.A y.sig.length y.cap) ∧ (convert 32 9 (.slice x.A x.sig.length x.cap)).run Tryz.prog w' = .ok (.string ⟨x.sig.toArray⟩) w' ∧ (convert 32 9 (.slice y.A y.sig.length y.cap)).run Tryz.prog w' = .ok (.string ⟨y.sig.toArray⟩) w') (by kernel_rfl) (HRows.out _ hbj.drew) (fun hHeld => ?_)
                            refine wpAnyH_takeD (some 129) (i := 0) (v := ?vh9_0) rfl rfl (by kernel_rfl) (by kernel_rfl) (by kernel_rfl) (fun _ _ _ h => h) (by rfl) ?hh9_0 (by assumption) ?_
                            case hh9_0 => (intro wq hSw; (try dsimp only at hSw); go_simp; (try (with_reducible rfl)))
                            go_frame
                            refine wpAnyH_takeD (some 130) (i := 1) (v := ?vh9_1) rfl rfl (by kernel_rfl) (by kernel_rfl) (by kernel_rfl) (fun _ _ _ h => h) (by rfl) ?hh9_1 (by assumption) ?_
                            case hh9_1 => (intro wq hSw; (try dsimp only at hSw); go_simp; (try (with_reducible rfl)))
                            go_frame
                            refine wpAnyH_takeD (some 131) (i := 2) (v := ?vh9_2) rfl rfl (by kernel_rfl) (by kernel_rfl) (by kernel_rfl) (fun _ _ _ h => h) (by rfl) ?hh9_2 (by assumption) ?_
                            case hh9_2 => (intro wq hSw; (try dsimp only at hSw); go_simp; (try (with_reducible rfl)))
                            go_frame
                            refine wpAnyH_takeD (some 132) (i := 3) (v := ?vh9_3) rfl rfl (by kernel_rfl) (by kernel_rfl) (by kernel_rfl) (fun _ _ _ h => h) (by rfl) ?hh9_3 (by assumption) ?_
                            case hh9_3 => (intro wq hSw; (try dsimp only at hSw); go_simp; (try (with_reducible rfl)))
                            go_frame
                            refine wpAnyH_takeD (some 133) (i := 4) (v := ?vh9_4) rfl rfl (by kernel_rfl) (by kernel_rfl) (by kernel_rfl) (fun _ _ _ h => h) (by rfl) ?hh9_4 (by assumption) ?_
                            case hh9_4 => (intro wq hSw; (try dsimp only at hSw); go_simp; (try (with_reducible rfl)))
                            go_frame
                            refine wpAnyH_takeD (some 134) (i := 5) (v := ?vh9_5) rfl rfl (by kernel_rfl) (by kernel_rfl) (by kernel_rfl) (fun _ _ _ h => h) (by rfl) ?hh9_5 (by assumption) ?_
                            case hh9_5 => (intro wq hSw; (try dsimp only at hSw); go_simp; (try (with_reducible rfl)))
                            go_frame
                            refine wpAnyH_takeD (some 135) (i := 6) (v := ?vh9_6) rfl rfl (by kernel_rfl) (by kernel_rfl) (by kernel_rfl) (fun _ _ _ h => h) (by rfl) ?hh9_6 (by assumption) ?_
                            case hh9_6 => (intro wq hSw; (try dsimp only at hSw); go_simp; (try (with_reducible rfl)))
                            go_frame
                            refine wpAnyH_takeD (some 136) (i := 7) (v := ?vh9_7) rfl rfl (by kernel_rfl) (by kernel_rfl) (by kernel_rfl) (fun _ _ _ h => h) (by rfl) ?hh9_7 (by assumption) ?_
                            case hh9_7 => (intro wq hSw; (try dsimp only at hSw); go_simp; (try (with_reducible rfl)))
                            go_frame
                            refine wpAnyH_takeD (some 137) (i := 8) (v := ?vh9_8) rfl rfl (by kernel_rfl) (by kernel_rfl) (by kernel_rfl) (fun _ _ _ h => h) (by rfl) ?hh9_8 (by assumption) ?_
                            case hh9_8 => (intro wq hSw; (try dsimp only at hSw); go_simp; (try (with_reducible rfl)))
                            go_frame
                            refine wpAnyH_takeD (some 138) (i := 9) (v := ?vh9_9) rfl rfl (by kernel_rfl) (by kernel_rfl) (by kernel_rfl) (fun _ _ _ h => h) (by rfl) ?hh9_9 (by assumption) ?_
                            case hh9_9 => (intro wq hSw; (try dsimp only at hSw); go_simp; (try (with_reducible rfl)))
                            go_frame
                            refine wpAnyH_takeD (some 139) (i := 10) (v := ?vh9_10) rfl rfl (by kernel_rfl) (by kernel_rfl) (by kernel_rfl) (fun _ _ _ h => h) (by rfl) ?hh9_10 (by assumption) ?_
                            case hh9_10 => (intro wq hSw; (try dsimp only at hSw); go_simp; (try (with_reducible rfl)))
                            go_frame
                            refine wpAnyH_takeD (some 128) (i := 11) (v := ?vh9_11) rfl rfl (by kernel_rfl) (by kernel_rfl) (by kernel_rfl) (fun _ _ _ h => h) (by rfl) ?hh9_11 (by assumption) ?_
                            case hh9_11 => (intro wq hSw; (try dsimp only at hSw); go_simp; (try (with_reducible rfl)))
                            go_frame
                            refine wpAnyH_done (by kernel_rfl) ?_ _
                            refine NoPanic.normal ?_
                            go_wp2_with fail
                            go_meet
                            exact ⟨by rw [HB3.out, ← bytesLe_eq], own_drew HOwn.out, hbj.drew⟩
                          case rest =>
                            clear hbj HOwn
                            obtain ⟨rfl, hown, hbj⟩ := hcut
                            have HOwn := Lib.hid hown
                            clear hown
                            cases r3 with
                            | true =>
                              have HAL' : Hid (O.map Sg.vs ++ mergeL (L.map Sg.vs) (M'.map Sg.vs) = canF (l.map Sg.vs)) := by
                                have h := HAL.out
                                unfold Hid
                                have h5 : bytesLe x.vs.2 y.vs.2 = true := HB3.out.symm
                                rw [HM.out, HL.out, List.map_cons, List.map_cons, mergeL_c H3.out H4.out h5] at h
                                rw [HL.out, List.map_cons]
                                exact h
                              rw [HM.out] at HQ
                              obtain ⟨q', rfl⟩ : ∃ q', q = q' + 1 := ⟨M'.length, HQ.out.symm⟩
                              have HQ' : Hid (M'.length = q') := Nat.succ.inj HQ.out
                              have iq1 : (1 : Int) ≤ (q' : Int) + 1 := by omega
                              have ic2 : (1 : Int) ≤ (c2 : Int) := by omega
                              have hqc : ((q' : Int) + 1) ≤ (c2 : Int) := by omega
                              go_wp2
                              go_roundw
                              case rel =>
                                refine ⟨L, M', O, ⟨_, c1, by rw [HP.out], by rw [HL.out]; exact HR1.out, by rw [HP.out]; exact hc1, hm1, by rw [HL.out]; exact HK1.out⟩, ?_, HO.out, HOwn.out, hbj, HAL'.out, by rw [HP.out, HQ'.out]; omega⟩
                                have h := SlOk.tail HR2.out (c := c2) (by rw [HQ'.out]; exact hc2) hm2 HK2.out
                                rw [HQ'.out] at h
                                simpa using h
                              case measure => simp [lenOfV]
                            | false =>
                              have HAL' : Hid (O.map Sg.vs ++ mergeL (L'.map Sg.vs) (M.map Sg.vs) = canF (l.map Sg.vs)) := by
                                have h := HAL.out
                                unfold Hid
                                have h5 : bytesLe x.vs.2 y.vs.2 = false := HB3.out.symm
                                rw [HM.out, HL.out, List.map_cons, List.map_cons, mergeL_d H3.out H4.out h5] at h
                                rw [HM.out, List.map_cons]
                                exact h
                              rw [HL.out] at HP
                              obtain ⟨p', rfl⟩ : ∃ p', p = p' + 1 := ⟨L'.length, HP.out.symm⟩
                              have HP' : Hid (L'.length = p') := Nat.succ.inj HP.out
                              have ip1 : (1 : Int) ≤ (p' : Int) + 1 := by omega
                              have ic1 : (1 : Int) ≤ (c1 : Int) := by omega
                              have hpc : ((p' : Int) + 1) ≤ (c1 : Int) := by omega
                              go_wp2
                              go_roundw
                              case rel =>
                                refine ⟨L', M, O, ?_, ⟨_, c2, by rw [HQ.out], by rw [HM.out]; exact HR2.out, by rw [HQ.out]; exact hc2, hm2, by rw [HM.out]; exact HK2.out⟩, HO.out, HOwn.out, hbj, HAL'.out, by rw [HP'.out, HQ.out]; omega⟩
                                have h := SlOk.tail HR1.out (c := c1) (by rw [HP'.out]; exact hc1) hm1 HK1.out
                                rw [HP'.out] at h
                                simpa using h
                              case measure => simp [lenOfV]

/-- The reference's Canonical, for every list. -/
theorem rcan_any : ∀ (m : Nat) (A : Option Addr) (n c : Nat) (l : List Sg) (w : World), n ≤ m → l.length = n → Rd w w.heap.size A (l.flatMap sgc) → SgsOk w w.heap.size l → n ≤ 1000000 → n ≤ c → c ≤ maxLen → Calls Tryz.prog 27 #[.slice A n c] w (CanPost w (l.map Sg.vs)) := by
  intro m
  induction m with
  | zero =>
    intro A n c l w hm hn hr hok hs hc hcm
    exact rcan_step A n c l w hn hr hok hs hc hcm (fun _ n' _ _ _ h => by omega)
  | succ m ih =>
    intro A n c l w hm hn hr hok hs hc hcm
    exact rcan_step A n c l w hn hr hok hs hc hcm (fun A' n' c' l' w' h h1 h2 h3 h4 h5 => ih A' n' c' l' w' (by omega) h1 h2 h3 (by omega) h4 h5)
end Go.Proofs.YthmecidpjlaonaaGreat
