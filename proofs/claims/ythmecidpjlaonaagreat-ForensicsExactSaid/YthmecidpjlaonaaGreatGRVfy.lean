/-
  The reference's verify returns whether a signed vote verifies with the key of its signer, and changes nothing that was there. Condition: keys and vote lie in memory below the call.
-/
import Derived.Test.YthmecidpjlaonaaGreatGDefs
import Derived.Test.YthmecidpjlaonaaGreatGRVer
namespace Go.Proofs.YthmecidpjlaonaaGreat
open Go.RowKit
attribute [local go_sem ↓] Go.wp_at_zero Go.wp_at_succ loadNm loadVt loadSg loadEv
attribute [local go_sem] runNm runVt runSg runEv pickRow_some rowAt_drew rowAt_drewN

set_option maxRecDepth 100000 in
set_option maxHeartbeats 4000000 in
theorem verify_in (K : Option Addr) (n ck : Nat) (s : Sg) (w : World) (sn : Nat) (hsn : s.vote.signer = (sn : Int)) (b o : Nat) (hK : K = some ⟨b, o, none⟩) (key : Nm) (kr : Bool) (hk : sn < n) (hkey : ∀ W, Below w.heap.size w W → rowAt W b (o + sn * 8) 8 = some key.cells)
    (hv1 : ∀ W, Below w.heap.size w W → Calls Tryz.prog 21 #[key.val, s.val] W (BoolPost W kr)) :
    Calls Tryz.prog 44 #[.slice K n ck, s.val] w (BoolPost w kr) := by
  subst hK
  have HS := Lib.hid hsn; clear hsn
  have HK := Lib.hid hkey; clear hkey
  have HV1 := Lib.hid hv1; clear hv1
  have i1 : (0 : Int) ≤ (sn : Int) := by omega
  have i2 : (sn : Int) < (n : Int) := by omega
  have d1 : decide ((0 : Int) ≤ (sn : Int)) = true := by simp
  have d2 : decide (sn < n) = true := by simp; omega
  have hE : Blk (w.alloc (Obj.cells s.cells 34)) w.heap.size 34 s.cells := Blk.new w _ _
  have hbW : Below w.heap.size w (w.alloc (Obj.cells s.cells 34)) := (Below.refl _ _).alloc (Nat.le_refl _) _
  go_enter Tryz.func44, Tryz.ntmps44
  go_wp2
  generalize (w.alloc (Obj.cells s.cells 34)) = W at *
  have c4 : ∀ W', Blk W' w.heap.size 34 s.cells → W'.cell? ⟨w.heap.size, 4, none⟩ = some (.int .i64 (sn : Int)) := fun W' h => by rw [← HS.out]; exact (h.cell 4).trans (s.cell_vote 4 _ rfl)
  have H4 := Lib.hid c4; clear c4
  refine wp_region_noPanic ?_
  refine wp_region_held_drew (S := fun w' => w'.cell? ⟨w.heap.size, 4, none⟩ = some (.int .i64 (sn : Int)) ∧ rowAt w' b (o + sn * 8) 8 = some key.cells ∧ rowAt w' w.heap.size 0 23 = some s.cells) (by kernel_rfl) (⟨H4.out _ hE.drew, HK.out _ hbW.drew, hE.drew.row 23 (Sg.size_cells _)⟩) (fun hHeld => ?_)
  refine wpAnyH_takeD (some 5) (i := 0) (v := ?vh1_0) rfl rfl (by kernel_rfl) (by kernel_rfl) (by kernel_rfl) (fun _ _ _ h => h) (by rfl) ?hh1_0 (by assumption) ?_
  case hh1_0 => (intro wq hSw; (try dsimp only at hSw); go_simp; (try (with_reducible rfl)))
  go_frame
  refine wpAnyH_takeD (some 6) (i := 1) (v := ?vh1_1) rfl rfl (by kernel_rfl) (by kernel_rfl) (by kernel_rfl) (fun _ _ _ h => h) (by rfl) ?hh1_1 (by assumption) ?_
  case hh1_1 => (intro wq hSw; (try dsimp only at hSw); go_simp; (try (with_reducible rfl)))
  go_frame
  refine wpAnyH_takeD (some 7) (i := 2) (v := ?vh1_2) rfl rfl (by kernel_rfl) (by kernel_rfl) (by kernel_rfl) (fun _ _ _ h => h) (by rfl) ?hh1_2 (by assumption) ?_
  case hh1_2 => (intro wq hSw; (try dsimp only at hSw); go_simp; (try (with_reducible rfl)))
  go_frame
  refine wpAnyH_takeD (some 8) (i := 3) (v := ?vh1_3) rfl rfl (by kernel_rfl) (by kernel_rfl) (by kernel_rfl) (fun _ _ _ h => h) (by rfl) ?hh1_3 (by assumption) ?_
  case hh1_3 => (intro wq hSw; (try dsimp only at hSw); go_simp; (try (with_reducible rfl)))
  go_frame
  refine wpAnyH_takeD (some 9) (i := 4) (v := ?vh1_4) rfl rfl (by kernel_rfl) (by kernel_rfl) (by kernel_rfl) (fun _ _ _ h => h) (by rfl) ?hh1_4 (by assumption) ?_
  case hh1_4 => (intro wq hSw; (try dsimp only at hSw); go_simp; (try (with_reducible rfl)))
  go_frame
  refine wpAnyH_takeD (some 10) (i := 5) (v := ?vh1_5) rfl rfl (by kernel_rfl) (by kernel_rfl) (by kernel_rfl) (fun _ _ _ h => h) (by rfl) ?hh1_5 (by assumption) ?_
  case hh1_5 => (intro wq hSw; (try dsimp only at hSw); go_simp; (try (with_reducible rfl)))
  go_frame
  refine wpAnyH_takeD (some 11) (i := 6) (v := ?vh1_6) rfl rfl (by kernel_rfl) (by kernel_rfl) (by kernel_rfl) (fun _ _ _ h => h) (by rfl) ?hh1_6 (by assumption) ?_
  case hh1_6 => (intro wq hSw; (try dsimp only at hSw); go_simp; (try (with_reducible rfl)))
  go_frame
  refine wpAnyH_takeD (some 12) (i := 7) (v := ?vh1_7) rfl rfl (by kernel_rfl) (by kernel_rfl) (by kernel_rfl) (fun _ _ _ h => h) (by rfl) ?hh1_7 (by assumption) ?_
  case hh1_7 => (intro wq hSw; (try dsimp only at hSw); go_simp; (try (with_reducible rfl)))
  go_frame
  refine wpAnyH_takeD (some 13) (i := 8) (v := ?vh1_8) rfl rfl (by kernel_rfl) (by kernel_rfl) (by kernel_rfl) (fun _ _ _ h => h) (by rfl) ?hh1_8 (by assumption) ?_
  case hh1_8 => (intro wq hSw; (try dsimp only at hSw); go_simp; (try (with_reducible rfl)))
  go_frame
  refine wpAnyH_takeD (some 14) (i := 9) (v := ?vh1_9) rfl rfl (by kernel_rfl) (by kernel_rfl) (by kernel_rfl) (fun _ _ _ h => h) (by rfl) ?hh1_9 (by assumption) ?_
  case hh1_9 => (intro wq hSw; (try dsimp only at hSw); go_simp; (try (with_reducible rfl)))
  go_frame
  refine wpAnyH_takeD (some 15) (i := 10) (v := ?vh1_10) rfl rfl (by kernel_rfl) (by kernel_rfl) (by kernel_rfl) (fun _ _ _ h => h) (by rfl) ?hh1_10 (by assumption) ?_
  case hh1_10 => (intro wq hSw; (try dsimp only at hSw); go_simp; (try (with_reducible rfl)))
  go_frame
  refine wpAnyH_takeD (some 16) (i := 11) (v := ?vh1_11) rfl rfl (by kernel_rfl) (by kernel_rfl) (by kernel_rfl) (fun _ _ _ h => h) (by rfl) ?hh1_11 (by assumption) ?_
  case hh1_11 => (intro wq hSw; (try dsimp only at hSw); go_simp; (try (with_reducible rfl)))
  go_frame
  refine wpAnyH_takeD (some 17) (i := 12) (v := ?vh1_12) rfl rfl (by kernel_rfl) (by kernel_rfl) (by kernel_rfl) (fun _ _ _ h => h) (by rfl) ?hh1_12 (by assumption) ?_
  case hh1_12 => (intro wq hSw; (try dsimp only at hSw); go_simp; (try (with_reducible rfl)))
  go_frame
  refine wpAnyH_takeD (some 18) (i := 13) (v := ?vh1_13) rfl rfl (by kernel_rfl) (by kernel_rfl) (by kernel_rfl) (fun _ _ _ h => h) (by rfl) ?hh1_13 (by assumption) ?_
  case hh1_13 => (intro wq hSw; (try dsimp only at hSw); go_simp; (try (with_reducible rfl)))
  go_frame
  refine wpAnyH_takeD (some 19) (i := 14) (v := ?vh1_14) rfl rfl (by kernel_rfl) (by kernel_rfl) (by kernel_rfl) (fun _ _ _ h => h) (by rfl) ?hh1_14 (by assumption) ?_
  case hh1_14 => (intro wq hSw; (try dsimp only at hSw); go_simp; (try (with_reducible rfl)))
  go_frame
  refine wpAnyH_takeD (some 20) (i := 15) (v := ?vh1_15) rfl rfl (by kernel_rfl) (by kernel_rfl) (by kernel_rfl) (fun _ _ _ h => h) (by rfl) ?hh1_15 (by assumption) ?_
  case hh1_15 => (intro wq hSw; (try dsimp only at hSw); go_simp; (try (with_reducible rfl)))
  go_frame
  refine wpAnyH_takeD (some 21) (i := 16) (v := ?vh1_16) rfl rfl (by kernel_rfl) (by kernel_rfl) (by kernel_rfl) (fun _ _ _ h => h) (by rfl) ?hh1_16 (by assumption) ?_
  case hh1_16 => (intro wq hSw; (try dsimp only at hSw); go_simp; (try (with_reducible rfl)))
  go_frame
  refine wpAnyH_takeD (some 22) (i := 17) (v := ?vh1_17) rfl rfl (by kernel_rfl) (by kernel_rfl) (by kernel_rfl) (fun _ _ _ h => h) (by rfl) ?hh1_17 (by assumption) ?_
  case hh1_17 => (intro wq hSw; (try dsimp only at hSw); go_simp; (try (with_reducible rfl)))
  go_frame
  refine wpAnyH_takeD (some 23) (i := 18) (v := ?vh1_18) rfl rfl (by kernel_rfl) (by kernel_rfl) (by kernel_rfl) (fun _ _ _ h => h) (by rfl) ?hh1_18 (by assumption) ?_
  case hh1_18 => (intro wq hSw; (try dsimp only at hSw); go_simp; (try (with_reducible rfl)))
  go_frame
  refine wpAnyH_takeD (some 24) (i := 19) (v := ?vh1_19) rfl rfl (by kernel_rfl) (by kernel_rfl) (by kernel_rfl) (fun _ _ _ h => h) (by rfl) ?hh1_19 (by assumption) ?_
  case hh1_19 => (intro wq hSw; (try dsimp only at hSw); go_simp; (try (with_reducible rfl)))
  go_frame
  refine wpAnyH_ready (rs := [20]) (by kernel_rfl) (by simp) ?_
  refine AllReadyH.cons rfl (fun K hK => ?_) AllReadyH.nil
  go_simp
  refine (HV1.out _ hbW.drew).mono ?_; rintro en w4 ⟨rfl, hb4⟩; have hE4 := hE.drew.below hb4 hE.lt; have hbw4 := hbW.trans (((Below.refl _ _).drew.trans hb4).mono hbW.size)
  go_wp2_with fail
  refine hK.out _ _ (⟨H4.out _ hE4, HK.out _ hbw4, hE4.row 23 (Sg.size_cells _)⟩) (fun hHeld => ?_)
  clear hK K
  try go_frame
  refine wpAnyH_takeD (some 26) (i := 21) (v := ?vh1_21) rfl rfl (by kernel_rfl) (by kernel_rfl) (by kernel_rfl) (fun _ _ _ h => h) (by rfl) ?hh1_21 (by assumption) ?_
  case hh1_21 => (intro wq hSw; (try dsimp only at hSw); go_simp; (try (with_reducible rfl)))
  go_frame
  refine wpAnyH_takeD (some 4) (i := 22) (v := ?vh1_22) rfl rfl (by kernel_rfl) (by kernel_rfl) (by kernel_rfl) (fun _ _ _ h => h) (by rfl) ?hh1_22 (by assumption) ?_
  case hh1_22 => (intro wq hSw; (try dsimp only at hSw); go_simp; (try (with_reducible rfl)))
  go_frame
  refine wpAnyH_done (by kernel_rfl) ?_ _
  refine NoPanic.normal ?_
  go_wp2
  go_ret
  exact ⟨rfl, hbw4⟩

set_option maxRecDepth 100000 in
set_option maxHeartbeats 4000000 in
theorem verify_hi (K : Option Addr) (n ck : Nat) (s : Sg) (w : World) (sn : Nat) (hsn : s.vote.signer = (sn : Int)) (hk : n ≤ sn) : Calls Tryz.prog 44 #[.slice K n ck, s.val] w (BoolPost w false) := by
  have HS := Lib.hid hsn; clear hsn
  have d1 : decide ((0 : Int) ≤ (sn : Int)) = true := by simp
  have d2 : decide (sn < n) = false := by simp; omega
  have hE : Blk (w.alloc (Obj.cells s.cells 34)) w.heap.size 34 s.cells := Blk.new w _ _
  have hbW : Below w.heap.size w (w.alloc (Obj.cells s.cells 34)) := (Below.refl _ _).alloc (Nat.le_refl _) _
  go_enter Tryz.func44, Tryz.ntmps44
  go_wp2
  generalize (w.alloc (Obj.cells s.cells 34)) = W at *
  have c4 : ∀ W', Blk W' w.heap.size 34 s.cells → W'.cell? ⟨w.heap.size, 4, none⟩ = some (.int .i64 (sn : Int)) := fun W' h => by rw [← HS.out]; exact (h.cell 4).trans (s.cell_vote 4 _ rfl)
  have H4 := Lib.hid c4; clear c4
  refine wp_region_noPanic ?_
  refine wp_region_held_drew (S := fun w' => w'.cell? ⟨w.heap.size, 4, none⟩ = some (.int .i64 (sn : Int))) (by kernel_rfl) (H4.out _ hE.drew) (fun hHeld => ?_)
  refine wpAnyH_takeD (some 5) (i := 0) (v := ?vh2_0) rfl rfl (by kernel_rfl) (by kernel_rfl) (by kernel_rfl) (fun _ _ _ h => h) (by rfl) ?hh2_0 (by assumption) ?_
  case hh2_0 => (intro wq hSw; (try dsimp only at hSw); go_simp; (try (with_reducible rfl)))
  go_frame
  refine wpAnyH_takeD (some 6) (i := 1) (v := ?vh2_1) rfl rfl (by kernel_rfl) (by kernel_rfl) (by kernel_rfl) (fun _ _ _ h => h) (by rfl) ?hh2_1 (by assumption) ?_
  case hh2_1 => (intro wq hSw; (try dsimp only at hSw); go_simp; (try (with_reducible rfl)))
  go_frame
  refine wpAnyH_takeD (some 7) (i := 2) (v := ?vh2_2) rfl rfl (by kernel_rfl) (by kernel_rfl) (by kernel_rfl) (fun _ _ _ h => h) (by rfl) ?hh2_2 (by assumption) ?_
  case hh2_2 => (intro wq hSw; (try dsimp only at hSw); go_simp; (try (with_reducible rfl)))
  go_frame
  refine wpAnyH_takeD (some 8) (i := 3) (v := ?vh2_3) rfl rfl (by kernel_rfl) (by kernel_rfl) (by kernel_rfl) (fun _ _ _ h => h) (by rfl) ?hh2_3 (by assumption) ?_
  case hh2_3 => (intro wq hSw; (try dsimp only at hSw); go_simp; (try (with_reducible rfl)))
  go_frame
  refine wpAnyH_takeD (some 9) (i := 4) (v := ?vh2_4) rfl rfl (by kernel_rfl) (by kernel_rfl) (by kernel_rfl) (fun _ _ _ h => h) (by rfl) ?hh2_4 (by assumption) ?_
  case hh2_4 => (intro wq hSw; (try dsimp only at hSw); go_simp; (try (with_reducible rfl)))
  go_frame
  refine wpAnyH_takeD (some 10) (i := 5) (v := ?vh2_5) rfl rfl (by kernel_rfl) (by kernel_rfl) (by kernel_rfl) (fun _ _ _ h => h) (by rfl) ?hh2_5 (by assumption) ?_
  case hh2_5 => (intro wq hSw; (try dsimp only at hSw); go_simp; (try (with_reducible rfl)))
  go_frame
  refine wpAnyH_takeD (some 11) (i := 6) (v := ?vh2_6) rfl rfl (by kernel_rfl) (by kernel_rfl) (by kernel_rfl) (fun _ _ _ h => h) (by rfl) ?hh2_6 (by assumption) ?_
  case hh2_6 => (intro wq hSw; (try dsimp only at hSw); go_simp; (try (with_reducible rfl)))
  go_frame
  refine wpAnyH_takeD (some 12) (i := 7) (v := ?vh2_7) rfl rfl (by kernel_rfl) (by kernel_rfl) (by kernel_rfl) (fun _ _ _ h => h) (by rfl) ?hh2_7 (by assumption) ?_
  case hh2_7 => (intro wq hSw; (try dsimp only at hSw); go_simp; (try (with_reducible rfl)))
  go_frame
  refine wpAnyH_takeD (some 13) (i := 8) (v := ?vh2_8) rfl rfl (by kernel_rfl) (by kernel_rfl) (by kernel_rfl) (fun _ _ _ h => h) (by rfl) ?hh2_8 (by assumption) ?_
  case hh2_8 => (intro wq hSw; (try dsimp only at hSw); go_simp; (try (with_reducible rfl)))
  go_frame
  refine wpAnyH_takeD (some 14) (i := 9) (v := ?vh2_9) rfl rfl (by kernel_rfl) (by kernel_rfl) (by kernel_rfl) (fun _ _ _ h => h) (by rfl) ?hh2_9 (by assumption) ?_
  case hh2_9 => (intro wq hSw; (try dsimp only at hSw); go_simp; (try (with_reducible rfl)))
  go_frame
  refine wpAnyH_takeD (some 15) (i := 10) (v := ?vh2_10) rfl rfl (by kernel_rfl) (by kernel_rfl) (by kernel_rfl) (fun _ _ _ h => h) (by rfl) ?hh2_10 (by assumption) ?_
  case hh2_10 => (intro wq hSw; (try dsimp only at hSw); go_simp; (try (with_reducible rfl)))
  go_frame
  refine wpAnyH_takeD (some 16) (i := 11) (v := ?vh2_11) rfl rfl (by kernel_rfl) (by kernel_rfl) (by kernel_rfl) (fun _ _ _ h => h) (by rfl) ?hh2_11 (by assumption) ?_
  case hh2_11 => (intro wq hSw; (try dsimp only at hSw); go_simp; (try (with_reducible rfl)))
  go_frame
  refine wpAnyH_takeD (some 17) (i := 12) (v := ?vh2_12) rfl rfl (by kernel_rfl) (by kernel_rfl) (by kernel_rfl) (fun _ _ _ h => h) (by rfl) ?hh2_12 (by assumption) ?_
  case hh2_12 => (intro wq hSw; (try dsimp only at hSw); go_simp; (try (with_reducible rfl)))
  go_frame
  refine wpAnyH_skipD (some 18) (i := 13) rfl rfl (by kernel_rfl) (by kernel_rfl) (by kernel_rfl) (fun _ _ _ h => h) (by rfl) (by assumption) ?_
  go_frame
  refine wpAnyH_skipD (some 19) (i := 14) rfl rfl (by kernel_rfl) (by kernel_rfl) (by kernel_rfl) (fun _ _ _ h => h) (by rfl) (by assumption) ?_
  go_frame
  refine wpAnyH_skipD (some 20) (i := 15) rfl rfl (by kernel_rfl) (by kernel_rfl) (by kernel_rfl) (fun _ _ _ h => h) (by rfl) (by assumption) ?_
  go_frame
  refine wpAnyH_skipD (some 21) (i := 16) rfl rfl (by kernel_rfl) (by kernel_rfl) (by kernel_rfl) (fun _ _ _ h => h) (by rfl) (by assumption) ?_
  go_frame
  refine wpAnyH_skipD (some 22) (i := 17) rfl rfl (by kernel_rfl) (by kernel_rfl) (by kernel_rfl) (fun _ _ _ h => h) (by rfl) (by assumption) ?_
  go_frame
  refine wpAnyH_skipD (some 23) (i := 18) rfl rfl (by kernel_rfl) (by kernel_rfl) (by kernel_rfl) (fun _ _ _ h => h) (by rfl) (by assumption) ?_
  go_frame
  refine wpAnyH_skipD (some 24) (i := 19) rfl rfl (by kernel_rfl) (by kernel_rfl) (by kernel_rfl) (fun _ _ _ h => h) (by rfl) (by assumption) ?_
  go_frame
  refine wpAnyH_skipD (some 25) (i := 20) rfl rfl (by kernel_rfl) (by kernel_rfl) (by kernel_rfl) (fun _ _ _ h => h) (by rfl) (by assumption) ?_
  go_frame
  refine wpAnyH_takeD (some 26) (i := 21) (v := ?vh2_21) rfl rfl (by kernel_rfl) (by kernel_rfl) (by kernel_rfl) (fun _ _ _ h => h) (by rfl) ?hh2_21 (by assumption) ?_
  case hh2_21 => (intro wq hSw; (try dsimp only at hSw); go_simp; (try (with_reducible rfl)))
  go_frame
  refine wpAnyH_takeD (some 4) (i := 22) (v := ?vh2_22) rfl rfl (by kernel_rfl) (by kernel_rfl) (by kernel_rfl) (fun _ _ _ h => h) (by rfl) ?hh2_22 (by assumption) ?_
  case hh2_22 => (intro wq hSw; (try dsimp only at hSw); go_simp; (try (with_reducible rfl)))
  go_frame
  refine wpAnyH_done (by kernel_rfl) ?_ _
  refine NoPanic.normal ?_
  go_wp2
  go_ret
  exact ⟨rfl, hbW.drew⟩

set_option maxRecDepth 100000 in
set_option maxHeartbeats 4000000 in
theorem verify_lo (K : Option Addr) (n ck : Nat) (s : Sg) (w : World) (z : Int) (hsn : s.vote.signer = z) (hk : z < 0) : Calls Tryz.prog 44 #[.slice K n ck, s.val] w (BoolPost w false) := by
  have HS := Lib.hid hsn; clear hsn
  have d1 : decide ((0 : Int) ≤ z) = false := by simp; omega
  have hE : Blk (w.alloc (Obj.cells s.cells 34)) w.heap.size 34 s.cells := Blk.new w _ _
  have hbW : Below w.heap.size w (w.alloc (Obj.cells s.cells 34)) := (Below.refl _ _).alloc (Nat.le_refl _) _
  go_enter Tryz.func44, Tryz.ntmps44
  go_wp2
  generalize (w.alloc (Obj.cells s.cells 34)) = W at *
  have c4 : ∀ W', Blk W' w.heap.size 34 s.cells → W'.cell? ⟨w.heap.size, 4, none⟩ = some (.int .i64 z) := fun W' h => by rw [← HS.out]; exact (h.cell 4).trans (s.cell_vote 4 _ rfl)
  have H4 := Lib.hid c4; clear c4
  refine wp_region_noPanic ?_
  refine wp_region_held_drew (S := fun w' => w'.cell? ⟨w.heap.size, 4, none⟩ = some (.int .i64 z)) (by kernel_rfl) (H4.out _ hE.drew) (fun hHeld => ?_)
  refine wpAnyH_takeD (some 5) (i := 0) (v := ?vh3_0) rfl rfl (by kernel_rfl) (by kernel_rfl) (by kernel_rfl) (fun _ _ _ h => h) (by rfl) ?hh3_0 (by assumption) ?_
  case hh3_0 => (intro wq hSw; (try dsimp only at hSw); go_simp; (try (with_reducible rfl)))
  go_frame
  refine wpAnyH_takeD (some 6) (i := 1) (v := ?vh3_1) rfl rfl (by kernel_rfl) (by kernel_rfl) (by kernel_rfl) (fun _ _ _ h => h) (by rfl) ?hh3_1 (by assumption) ?_
  case hh3_1 => (intro wq hSw; (try dsimp only at hSw); go_simp; (try (with_reducible rfl)))
  go_frame
  refine wpAnyH_takeD (some 7) (i := 2) (v := ?vh3_2) rfl rfl (by kernel_rfl) (by kernel_rfl) (by kernel_rfl) (fun _ _ _ h => h) (by rfl) ?hh3_2 (by assumption) ?_
  case hh3_2 => (intro wq hSw; (try dsimp only at hSw); go_simp; (try (with_reducible rfl)))
  go_frame
  refine wpAnyH_takeD (some 8) (i := 3) (v := ?vh3_3) rfl rfl (by kernel_rfl) (by kernel_rfl) (by kernel_rfl) (fun _ _ _ h => h) (by rfl) ?hh3_3 (by assumption) ?_
  case hh3_3 => (intro wq hSw; (try dsimp only at hSw); go_simp; (try (with_reducible rfl)))
  go_frame
  refine wpAnyH_takeD (some 9) (i := 4) (v := ?vh3_4) rfl rfl (by kernel_rfl) (by kernel_rfl) (by kernel_rfl) (fun _ _ _ h => h) (by rfl) ?hh3_4 (by assumption) ?_
  case hh3_4 => (intro wq hSw; (try dsimp only at hSw); go_simp; (try (with_reducible rfl)))
  go_frame
  refine wpAnyH_skipD (some 10) (i := 5) rfl rfl (by kernel_rfl) (by kernel_rfl) (by kernel_rfl) (fun _ _ _ h => h) (by rfl) (by assumption) ?_
  go_frame
  refine wpAnyH_skipD (some 11) (i := 6) rfl rfl (by kernel_rfl) (by kernel_rfl) (by kernel_rfl) (fun _ _ _ h => h) (by rfl) (by assumption) ?_
  go_frame
  refine wpAnyH_skipD (some 12) (i := 7) rfl rfl (by kernel_rfl) (by kernel_rfl) (by kernel_rfl) (fun _ _ _ h => h) (by rfl) (by assumption) ?_
  go_frame
  refine wpAnyH_skipD (some 13) (i := 8) rfl rfl (by kernel_rfl) (by kernel_rfl) (by kernel_rfl) (fun _ _ _ h => h) (by rfl) (by assumption) ?_
  go_frame
  refine wpAnyH_skipD (some 14) (i := 9) rfl rfl (by kernel_rfl) (by kernel_rfl) (by kernel_rfl) (fun _ _ _ h => h) (by rfl) (by assumption) ?_
  go_frame
  refine wpAnyH_skipD (some 15) (i := 10) rfl rfl (by kernel_rfl) (by kernel_rfl) (by kernel_rfl) (fun _ _ _ h => h) (by rfl) (by assumption) ?_
  go_frame
  refine wpAnyH_takeD (some 16) (i := 11) (v := ?vh3_11) rfl rfl (by kernel_rfl) (by kernel_rfl) (by kernel_rfl) (fun _ _ _ h => h) (by rfl) ?hh3_11 (by assumption) ?_
  case hh3_11 => (intro wq hSw; (try dsimp only at hSw); go_simp; (try (with_reducible rfl)))
  go_frame
  refine wpAnyH_takeD (some 17) (i := 12) (v := ?vh3_12) rfl rfl (by kernel_rfl) (by kernel_rfl) (by kernel_rfl) (fun _ _ _ h => h) (by rfl) ?hh3_12 (by assumption) ?_
  case hh3_12 => (intro wq hSw; (try dsimp only at hSw); go_simp; (try (with_reducible rfl)))
  go_frame
  refine wpAnyH_skipD (some 18) (i := 13) rfl rfl (by kernel_rfl) (by kernel_rfl) (by kernel_rfl) (fun _ _ _ h => h) (by rfl) (by assumption) ?_
  go_frame
  refine wpAnyH_skipD (some 19) (i := 14) rfl rfl (by kernel_rfl) (by kernel_rfl) (by kernel_rfl) (fun _ _ _ h => h) (by rfl) (by assumption) ?_
  go_frame
  refine wpAnyH_skipD (some 20) (i := 15) rfl rfl (by kernel_rfl) (by kernel_rfl) (by kernel_rfl) (fun _ _ _ h => h) (by rfl) (by assumption) ?_
  go_frame
  refine wpAnyH_skipD (some 21) (i := 16) rfl rfl (by kernel_rfl) (by kernel_rfl) (by kernel_rfl) (fun _ _ _ h => h) (by rfl) (by assumption) ?_
  go_frame
  refine wpAnyH_skipD (some 22) (i := 17) rfl rfl (by kernel_rfl) (by kernel_rfl) (by kernel_rfl) (fun _ _ _ h => h) (by rfl) (by assumption) ?_
  go_frame
  refine wpAnyH_skipD (some 23) (i := 18) rfl rfl (by kernel_rfl) (by kernel_rfl) (by kernel_rfl) (fun _ _ _ h => h) (by rfl) (by assumption) ?_
  go_frame
  refine wpAnyH_skipD (some 24) (i := 19) rfl rfl (by kernel_rfl) (by kernel_rfl) (by kernel_rfl) (fun _ _ _ h => h) (by rfl) (by assumption) ?_
  go_frame
  refine wpAnyH_skipD (some 25) (i := 20) rfl rfl (by kernel_rfl) (by kernel_rfl) (by kernel_rfl) (fun _ _ _ h => h) (by rfl) (by assumption) ?_
  go_frame
  refine wpAnyH_takeD (some 26) (i := 21) (v := ?vh3_21) rfl rfl (by kernel_rfl) (by kernel_rfl) (by kernel_rfl) (fun _ _ _ h => h) (by rfl) ?hh3_21 (by assumption) ?_
  case hh3_21 => (intro wq hSw; (try dsimp only at hSw); go_simp; (try (with_reducible rfl)))
  go_frame
  refine wpAnyH_takeD (some 4) (i := 22) (v := ?vh3_22) rfl rfl (by kernel_rfl) (by kernel_rfl) (by kernel_rfl) (fun _ _ _ h => h) (by rfl) ?hh3_22 (by assumption) ?_
  case hh3_22 => (intro wq hSw; (try dsimp only at hSw); go_simp; (try (with_reducible rfl)))
  go_frame
  refine wpAnyH_done (by kernel_rfl) ?_ _
  refine NoPanic.normal ?_
  go_wp2
  go_ret
  exact ⟨rfl, hbW.drew⟩

/-- A signed vote verifies with the key of its signer. -/
def verK (keys : List Nm) (v : Vt) (sig : List UInt8) : Bool := decide (0 ≤ v.signer) && (decide (v.signer < (keys.length : Int)) && verS (keys.getD v.signer.toNat Nm.zero) v sig)
theorem verify_any (K : Option Addr) (ck : Nat) (keys : List Nm) (s : Sg) (w : World) (hK : Rd w w.heap.size K (keys.flatMap nmc)) (hE : SgOk w w.heap.size s) (hca : SgCap s) :
    Calls Tryz.prog 44 #[.slice K keys.length ck, s.val] w (BoolPost w (verK keys s.vote s.sig)) := by
  unfold verK
  by_cases h0 : 0 ≤ s.vote.signer
  · obtain ⟨sn, hsn⟩ := Int.eq_ofNat_of_zero_le h0
    by_cases h1 : s.vote.signer < (keys.length : Int)
    · rw [decide_eq_true h0, decide_eq_true h1, Bool.true_and, Bool.true_and, show s.vote.signer.toNat = sn from by rw [hsn]; rfl]
      have hlt : sn < keys.length := by omega
      have hx := getD_some Nm.zero hlt
      have hne : keys.flatMap nmc ≠ [] := by
        intro e0
        have := flat_length nmc 8 keys (nmc_len keys)
        rw [e0] at this
        simp at this; omega
      obtain ⟨b, o, rfl, _, _⟩ := hK.cells hne
      exact verify_in _ keys.length ck s w sn hsn b o rfl (keys.getD sn Nm.zero) _ hlt (fun W hW => (hK.below hW).row hx) (fun W hW => rsver_any _ s W ((hE.below hW).more hW.size) hca)
    · rw [decide_eq_true h0, decide_eq_false h1]
      exact verify_hi K keys.length ck s w sn hsn (by omega)
  · rw [decide_eq_false h0]
    exact verify_lo K keys.length ck s w _ rfl (by omega)
end Go.Proofs.YthmecidpjlaonaaGreat
