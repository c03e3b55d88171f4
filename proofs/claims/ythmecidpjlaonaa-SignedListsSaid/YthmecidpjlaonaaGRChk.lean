/-
  The reference's verify returns whether a signed vote verifies with the key of its signer, and changes nothing that was there. Condition: keys and vote lie in memory below the call.
  The reference's Check returns the set and the error that a proof's bytes answer (checkF), and changes nothing that was there. Condition: keys and proof lie in memory below the call.
-/
import Derived.Test.YthmecidpjlaonaaGExh
import Derived.Deep.DeepCutAuto
namespace Go.Proofs.Ythmecidpjlaonaa
open Go.RowKit
attribute [local go_sem ↓] Go.wp_at_zero Go.wp_at_succ loadNm loadVt loadSg loadEv
attribute [local go_sem] runNm runVt runSg runEv pickRow_some rowAt_drew rowAt_drewN

set_option maxRecDepth 100000 in
set_option maxHeartbeats 4000000 in
theorem verify_in (K : Option Addr) (n ck : Nat) (s : Sg) (w : World) (sn : Nat) (hsn : s.vote.signer = (sn : Int)) (b o : Nat) (hK : K = some ⟨b, o, none⟩) (key : Nm) (kr : Bool) (hk : sn < n) (hkey : ∀ W, Below w.heap.size w W → rowAt W b (o + sn * 8) 8 = some key.cells)
    (hv1 : ∀ W, Below w.heap.size w W → Calls Try.prog 95 #[key.val, s.val] W (BoolPost W kr)) :
    Calls Try.prog 65 #[.slice K n ck, s.val] w (BoolPost w kr) := by
  subst hK
  have HS := Lib.hid hsn; clear hsn
  have HK := Lib.hid hkey; clear hkey
  have HV1 := Lib.hid hv1; clear hv1
  have i1 : (0 : Int) ≤ (sn : Int) := by omega
  have i2 : (sn : Int) < (n : Int) := by omega
  have d1 : decide ((0 : Int) ≤ (sn : Int)) = true := by simp
  have d2 : decide (sn < n) = true := by simp; omega
  have hE : Blk (w.alloc (Obj.cells s.cells 43)) w.heap.size 43 s.cells := Blk.new w _ _
  have hbW : Below w.heap.size w (w.alloc (Obj.cells s.cells 43)) := (Below.refl _ _).alloc (Nat.le_refl _) _
  go_enter Try.func65, Try.ntmps65
  go_wp2
  generalize (w.alloc (Obj.cells s.cells 43)) = W at *
  have c4 : ∀ W', Blk W' w.heap.size 43 s.cells → W'.cell? ⟨w.heap.size, 4, none⟩ = some (.int .i64 (sn : Int)) := fun W' h => by rw [← HS.out]; exact (h.cell 4).trans (s.cell_vote 4 _ rfl)
  have H4 := Lib.hid c4; clear c4
  refine wp_region_noPanic ?_
  refine wp_region_held_drew (S := fun w' => w'.cell? ⟨w.heap.size, 4, none⟩ = some (.int .i64 (sn : Int)) ∧ rowAt w' b (o + sn * 8) 8 = some key.cells ∧ rowAt w' w.heap.size 0 23 = some s.cells) (by kernel_rfl) (⟨H4.out _ hE.drew, HK.out _ hbW.drew, hE.drew.row 23 (Sg.size_cells _)⟩) (fun hHeld => ?_)
  refine wpAnyH_takeD (some 5) (i := 0) (v := ?vh1_0) rfl rfl (by kernel_rfl) (by kernel_rfl) (by kernel_rfl) (fun _ _ _ h => h) (by rfl) ?hh1_0 (by assumption) ?_
  case hh1_0 => (intro wq hSw; (try dsimp only at hSw); go_simp; (try (with_reducible rfl)))
  go_frame
  refine wpAnyH_takeD (some 6) (i := 1) (v := ?vh1_1) rfl rfl (by kernel_rfl) (by kernel_rfl) (by kernel_rfl) (fun _ _ _ h => h) (by rfl) ?hh1_1 (by assumption) ?_
  case hh1_1 => (intro wq hSw; (try dsimp only at hSw); go_simp; (try (with_reducible rfl)))
  go_frame
  refine wpAnyH_takeD (some 7) (i := 2) (v := ?vh1_2) rfl rfl (by kernel_rfl) (by kernel_rfl) (by kernel_rfl) (fun _ _ _ h => h) (by rfl) ?hh1_2 (by assumption) ?_
  case hh1_2 => (intro wq hSw; (try dsimp only at hSw); go_simp; (try (with_reducible rfl)))
  go_frame
  refine wpAnyH_takeD (some 8) (i := 3) (v := ?vh1_3) rfl rfl (by kernel_rfl) (by kernel_rfl) (by kernel_rfl) (fun _ _ _ h => h) (by rfl) ?hh1_3 (by assumption) ?_
  case hh1_3 => (intro wq hSw; (try dsimp only at hSw); go_simp; (try (with_reducible rfl)))
  go_frame
  refine wpAnyH_takeD (some 9) (i := 4) (v := ?vh1_4) rfl rfl (by kernel_rfl) (by kernel_rfl) (by kernel_rfl) (fun _ _ _ h => h) (by rfl) ?hh1_4 (by assumption) ?_
  case hh1_4 => (intro wq hSw; (try dsimp only at hSw); go_simp; (try (with_reducible rfl)))
  go_frame
  refine wpAnyH_takeD (some 10) (i := 5) (v := ?vh1_5) rfl rfl (by kernel_rfl) (by kernel_rfl) (by kernel_rfl) (fun _ _ _ h => h) (by rfl) ?hh1_5 (by assumption) ?_
  case hh1_5 => (intro wq hSw; (try dsimp only at hSw); go_simp; (try (with_reducible rfl)))
  go_frame
  refine wpAnyH_takeD (some 11) (i := 6) (v := ?vh1_6) rfl rfl (by kernel_rfl) (by kernel_rfl) (by kernel_rfl) (fun _ _ _ h => h) (by rfl) ?hh1_6 (by assumption) ?_
  case hh1_6 => (intro wq hSw; (try dsimp only at hSw); go_simp; (try (with_reducible rfl)))
  go_frame
  refine wpAnyH_takeD (some 12) (i := 7) (v := ?vh1_7) rfl rfl (by kernel_rfl) (by kernel_rfl) (by kernel_rfl) (fun _ _ _ h => h) (by rfl) ?hh1_7 (by assumption) ?_
  case hh1_7 => (intro wq hSw; (try dsimp only at hSw); go_simp; (try (with_reducible rfl)))
  go_frame
  refine wpAnyH_takeD (some 13) (i := 8) (v := ?vh1_8) rfl rfl (by kernel_rfl) (by kernel_rfl) (by kernel_rfl) (fun _ _ _ h => h) (by rfl) ?hh1_8 (by assumption) ?_
  case hh1_8 => (intro wq hSw; (try dsimp only at hSw); go_simp; (try (with_reducible rfl)))
  go_frame
  refine wpAnyH_takeD (some 14) (i := 9) (v := ?vh1_9) rfl rfl (by kernel_rfl) (by kernel_rfl) (by kernel_rfl) (fun _ _ _ h => h) (by rfl) ?hh1_9 (by assumption) ?_
  case hh1_9 => (intro wq hSw; (try dsimp only at hSw); go_simp; (try (with_reducible rfl)))
  go_frame
  refine wpAnyH_takeD (some 15) (i := 10) (v := ?vh1_10) rfl rfl (by kernel_rfl) (by kernel_rfl) (by kernel_rfl) (fun _ _ _ h => h) (by rfl) ?hh1_10 (by assumption) ?_
  case hh1_10 => (intro wq hSw; (try dsimp only at hSw); go_simp; (try (with_reducible rfl)))
  go_frame
  refine wpAnyH_takeD (some 16) (i := 11) (v := ?vh1_11) rfl rfl (by kernel_rfl) (by kernel_rfl) (by kernel_rfl) (fun _ _ _ h => h) (by rfl) ?hh1_11 (by assumption) ?_
  case hh1_11 => (intro wq hSw; (try dsimp only at hSw); go_simp; (try (with_reducible rfl)))
  go_frame
  refine wpAnyH_takeD (some 17) (i := 12) (v := ?vh1_12) rfl rfl (by kernel_rfl) (by kernel_rfl) (by kernel_rfl) (fun _ _ _ h => h) (by rfl) ?hh1_12 (by assumption) ?_
  case hh1_12 => (intro wq hSw; (try dsimp only at hSw); go_simp; (try (with_reducible rfl)))
  go_frame
  refine wpAnyH_takeD (some 18) (i := 13) (v := ?vh1_13) rfl rfl (by kernel_rfl) (by kernel_rfl) (by kernel_rfl) (fun _ _ _ h => h) (by rfl) ?hh1_13 (by assumption) ?_
  case hh1_13 => (intro wq hSw; (try dsimp only at hSw); go_simp; (try (with_reducible rfl)))
  go_frame
  refine wpAnyH_takeD (some 19) (i := 14) (v := ?vh1_14) rfl rfl (by kernel_rfl) (by kernel_rfl) (by kernel_rfl) (fun _ _ _ h => h) (by rfl) ?hh1_14 (by assumption) ?_
  case hh1_14 => (intro wq hSw; (try dsimp only at hSw); go_simp; (try (with_reducible rfl)))
  go_frame
  refine wpAnyH_takeD (some 20) (i := 15) (v := ?vh1_15) rfl rfl (by kernel_rfl) (by kernel_rfl) (by kernel_rfl) (fun _ _ _ h => h) (by rfl) ?hh1_15 (by assumption) ?_
  case hh1_15 => (intro wq hSw; (try dsimp only at hSw); go_simp; (try (with_reducible rfl)))
  go_frame
  refine wpAnyH_takeD (some 21) (i := 16) (v := ?vh1_16) rfl rfl (by kernel_rfl) (by kernel_rfl) (by kernel_rfl) (fun _ _ _ h => h) (by rfl) ?hh1_16 (by assumption) ?_
  case hh1_16 => (intro wq hSw; (try dsimp only at hSw); go_simp; (try (with_reducible rfl)))
  go_frame
  refine wpAnyH_takeD (some 22) (i := 17) (v := ?vh1_17) rfl rfl (by kernel_rfl) (by kernel_rfl) (by kernel_rfl) (fun _ _ _ h => h) (by rfl) ?hh1_17 (by assumption) ?_
  case hh1_17 => (intro wq hSw; (try dsimp only at hSw); go_simp; (try (with_reducible rfl)))
  go_frame
  refine wpAnyH_takeD (some 23) (i := 18) (v := ?vh1_18) rfl rfl (by kernel_rfl) (by kernel_rfl) (by kernel_rfl) (fun _ _ _ h => h) (by rfl) ?hh1_18 (by assumption) ?_
  case hh1_18 => (intro wq hSw; (try dsimp only at hSw); go_simp; (try (with_reducible rfl)))
  go_frame
  refine wpAnyH_takeD (some 24) (i := 19) (v := ?vh1_19) rfl rfl (by kernel_rfl) (by kernel_rfl) (by kernel_rfl) (fun _ _ _ h => h) (by rfl) ?hh1_19 (by assumption) ?_
  case hh1_19 => (intro wq hSw; (try dsimp only at hSw); go_simp; (try (with_reducible rfl)))
  go_frame
  refine wpAnyH_ready (rs := [20]) (by kernel_rfl) (by simp) ?_
  refine AllReadyH.cons rfl (fun K hK => ?_) AllReadyH.nil
  go_simp
  refine (HV1.out _ hbW.drew).mono ?_; rintro en w4 ⟨rfl, hb4⟩; have hE4 := hE.drew.below hb4 hE.lt; have hbw4 := hbW.trans (((Below.refl _ _).drew.trans hb4).mono hbW.size)
  go_wp2_with fail
  refine hK.out _ _ (⟨H4.out _ hE4, HK.out _ hbw4, hE4.row 23 (Sg.size_cells _)⟩) (fun hHeld => ?_)
  clear hK K
  try go_frame
  refine wpAnyH_takeD (some 26) (i := 21) (v := ?vh1_21) rfl rfl (by kernel_rfl) (by kernel_rfl) (by kernel_rfl) (fun _ _ _ h => h) (by rfl) ?hh1_21 (by assumption) ?_
  case hh1_21 => (intro wq hSw; (try dsimp only at hSw); go_simp; (try (with_reducible rfl)))
  go_frame
  refine wpAnyH_takeD (some 4) (i := 22) (v := ?vh1_22) rfl rfl (by kernel_rfl) (by kernel_rfl) (by kernel_rfl) (fun _ _ _ h => h) (by rfl) ?hh1_22 (by assumption) ?_
  case hh1_22 => (intro wq hSw; (try dsimp only at hSw); go_simp; (try (with_reducible rfl)))
  go_frame
  refine wpAnyH_done (by kernel_rfl) ?_ _
  refine NoPanic.normal ?_
  go_wp2
  go_ret
  exact ⟨rfl, hbw4⟩

set_option maxRecDepth 100000 in
set_option maxHeartbeats 4000000 in
theorem verify_hi (K : Option Addr) (n ck : Nat) (s : Sg) (w : World) (sn : Nat) (hsn : s.vote.signer = (sn : Int)) (hk : n ≤ sn) : Calls Try.prog 65 #[.slice K n ck, s.val] w (BoolPost w false) := by
  have HS := Lib.hid hsn; clear hsn
  have d1 : decide ((0 : Int) ≤ (sn : Int)) = true := by simp
  have d2 : decide (sn < n) = false := by simp; omega
  have hE : Blk (w.alloc (Obj.cells s.cells 43)) w.heap.size 43 s.cells := Blk.new w _ _
  have hbW : Below w.heap.size w (w.alloc (Obj.cells s.cells 43)) := (Below.refl _ _).alloc (Nat.le_refl _) _
  go_enter Try.func65, Try.ntmps65
  go_wp2
  generalize (w.alloc (Obj.cells s.cells 43)) = W at *
  have c4 : ∀ W', Blk W' w.heap.size 43 s.cells → W'.cell? ⟨w.heap.size, 4, none⟩ = some (.int .i64 (sn : Int)) := fun W' h => by rw [← HS.out]; exact (h.cell 4).trans (s.cell_vote 4 _ rfl)
  have H4 := Lib.hid c4; clear c4
  refine wp_region_noPanic ?_
  refine wp_region_held_drew (S := fun w' => w'.cell? ⟨w.heap.size, 4, none⟩ = some (.int .i64 (sn : Int))) (by kernel_rfl) (H4.out _ hE.drew) (fun hHeld => ?_)
  refine wpAnyH_takeD (some 5) (i := 0) (v := ?vh2_0) rfl rfl (by kernel_rfl) (by kernel_rfl) (by kernel_rfl) (fun _ _ _ h => h) (by rfl) ?hh2_0 (by assumption) ?_
  case hh2_0 => (intro wq hSw; (try dsimp only at hSw); go_simp; (try (with_reducible rfl)))
  go_frame
  refine wpAnyH_takeD (some 6) (i := 1) (v := ?vh2_1) rfl rfl (by kernel_rfl) (by kernel_rfl) (by kernel_rfl) (fun _ _ _ h => h) (by rfl) ?hh2_1 (by assumption) ?_
  case hh2_1 => (intro wq hSw; (try dsimp only at hSw); go_simp; (try (with_reducible rfl)))
  go_frame
  refine wpAnyH_takeD (some 7) (i := 2) (v := ?vh2_2) rfl rfl (by kernel_rfl) (by kernel_rfl) (by kernel_rfl) (fun _ _ _ h => h) (by rfl) ?hh2_2 (by assumption) ?_
  case hh2_2 => (intro wq hSw; (try dsimp only at hSw); go_simp; (try (with_reducible rfl)))
  go_frame
  refine wpAnyH_takeD (some 8) (i := 3) (v := ?vh2_3) rfl rfl (by kernel_rfl) (by kernel_rfl) (by kernel_rfl) (fun _ _ _ h => h) (by rfl) ?hh2_3 (by assumption) ?_
  case hh2_3 => (intro wq hSw; (try dsimp only at hSw); go_simp; (try (with_reducible rfl)))
  go_frame
  refine wpAnyH_takeD (some 9) (i := 4) (v := ?vh2_4) rfl rfl (by kernel_rfl) (by kernel_rfl) (by kernel_rfl) (fun _ _ _ h => h) (by rfl) ?hh2_4 (by assumption) ?_
  case hh2_4 => (intro wq hSw; (try dsimp only at hSw); go_simp; (try (with_reducible rfl)))
  go_frame
  refine wpAnyH_takeD (some 10) (i := 5) (v := ?vh2_5) rfl rfl (by kernel_rfl) (by kernel_rfl) (by kernel_rfl) (fun _ _ _ h => h) (by rfl) ?hh2_5 (by assumption) ?_
  case hh2_5 => (intro wq hSw; (try dsimp only at hSw); go_simp; (try (with_reducible rfl)))
  go_frame
  refine wpAnyH_takeD (some 11) (i := 6) (v := ?vh2_6) rfl rfl (by kernel_rfl) (by kernel_rfl) (by kernel_rfl) (fun _ _ _ h => h) (by rfl) ?hh2_6 (by assumption) ?_
  case hh2_6 => (intro wq hSw; (try dsimp only at hSw); go_simp; (try (with_reducible rfl)))
  go_frame
  refine wpAnyH_takeD (some 12) (i := 7) (v := ?vh2_7) rfl rfl (by kernel_rfl) (by kernel_rfl) (by kernel_rfl) (fun _ _ _ h => h) (by rfl) ?hh2_7 (by assumption) ?_
  case hh2_7 => (intro wq hSw; (try dsimp only at hSw); go_simp; (try (with_reducible rfl)))
  go_frame
  refine wpAnyH_takeD (some 13) (i := 8) (v := ?vh2_8) rfl rfl (by kernel_rfl) (by kernel_rfl) (by kernel_rfl) (fun _ _ _ h => h) (by rfl) ?hh2_8 (by assumption) ?_
  case hh2_8 => (intro wq hSw; (try dsimp only at hSw); go_simp; (try (with_reducible rfl)))
  go_frame
  refine wpAnyH_takeD (some 14) (i := 9) (v := ?vh2_9) rfl rfl (by kernel_rfl) (by kernel_rfl) (by kernel_rfl) (fun _ _ _ h => h) (by rfl) ?hh2_9 (by assumption) ?_
  case hh2_9 => (intro wq hSw; (try dsimp only at hSw); go_simp; (try (with_reducible rfl)))
  go_frame
  refine wpAnyH_takeD (some 15) (i := 10) (v := ?vh2_10) rfl rfl (by kernel_rfl) (by kernel_rfl) (by kernel_rfl) (fun _ _ _ h => h) (by rfl) ?hh2_10 (by assumption) ?_
  case hh2_10 => (intro wq hSw; (try dsimp only at hSw); go_simp; (try (with_reducible rfl)))
  go_frame
  refine wpAnyH_takeD (some 16) (i := 11) (v := ?vh2_11) rfl rfl (by kernel_rfl) (by kernel_rfl) (by kernel_rfl) (fun _ _ _ h => h) (by rfl) ?hh2_11 (by assumption) ?_
  case hh2_11 => (intro wq hSw; (try dsimp only at hSw); go_simp; (try (with_reducible rfl)))
  go_frame
  refine wpAnyH_takeD (some 17) (i := 12) (v := ?vh2_12) rfl rfl (by kernel_rfl) (by kernel_rfl) (by kernel_rfl) (fun _ _ _ h => h) (by rfl) ?hh2_12 (by assumption) ?_
  case hh2_12 => (intro wq hSw; (try dsimp only at hSw); go_simp; (try (with_reducible rfl)))
  go_frame
  refine wpAnyH_skipD (some 18) (i := 13) rfl rfl (by kernel_rfl) (by kernel_rfl) (by kernel_rfl) (fun _ _ _ h => h) (by rfl) (by assumption) ?_
  go_frame
  refine wpAnyH_skipD (some 19) (i := 14) rfl rfl (by kernel_rfl) (by kernel_rfl) (by kernel_rfl) (fun _ _ _ h => h) (by rfl) (by assumption) ?_
  go_frame
  refine wpAnyH_skipD (some 20) (i := 15) rfl rfl (by kernel_rfl) (by kernel_rfl) (by kernel_rfl) (fun _ _ _ h => h) (by rfl) (by assumption) ?_
  go_frame
  refine wpAnyH_skipD (some 21) (i := 16) rfl rfl (by kernel_rfl) (by kernel_rfl) (by kernel_rfl) (fun _ _ _ h => h) (by rfl) (by assumption) ?_
  go_frame
  refine wpAnyH_skipD (some 22) (i := 17) rfl rfl (by kernel_rfl) (by kernel_rfl) (by kernel_rfl) (fun _ _ _ h => h) (by rfl) (by assumption) ?_
  go_frame
  refine wpAnyH_skipD (some 23) (i := 18) rfl rfl (by kernel_rfl) (by kernel_rfl) (by kernel_rfl) (fun _ _ _ h => h) (by rfl) (by assumption) ?_
  go_frame
  refine wpAnyH_skipD (some 24) (i := 19) rfl rfl (by kernel_rfl) (by kernel_rfl) (by kernel_rfl) (fun _ _ _ h => h) (by rfl) (by assumption) ?_
  go_frame
  refine wpAnyH_skipD (some 25) (i := 20) rfl rfl (by kernel_rfl) (by kernel_rfl) (by kernel_rfl) (fun _ _ _ h => h) (by rfl) (by assumption) ?_
  go_frame
  refine wpAnyH_takeD (some 26) (i := 21) (v := ?vh2_21) rfl rfl (by kernel_rfl) (by kernel_rfl) (by kernel_rfl) (fun _ _ _ h => h) (by rfl) ?hh2_21 (by assumption) ?_
  case hh2_21 => (intro wq hSw; (try dsimp only at hSw); go_simp; (try (with_reducible rfl)))
  go_frame
  refine wpAnyH_takeD (some 4) (i := 22) (v := ?vh2_22) rfl rfl (by kernel_rfl) (by kernel_rfl) (by kernel_rfl) (fun _ _ _ h => h) (by rfl) ?hh2_22 (by assumption) ?_
  case hh2_22 => (intro wq hSw; (try dsimp only at hSw); go_simp; (try (with_reducible rfl)))
  go_frame
  refine wpAnyH_done (by kernel_rfl) ?_ _
  refine NoPanic.normal ?_
  go_wp2
  go_ret
  exact ⟨rfl, hbW.drew⟩

set_option maxRecDepth 100000 in
set_option maxHeartbeats 4000000 in
theorem verify_lo (K : Option Addr) (n ck : Nat) (s : Sg) (w : World) (z : Int) (hsn : s.vote.signer = z) (hk : z < 0) : Calls Try.prog 65 #[.slice K n ck, s.val] w (BoolPost w false) := by
  have HS := Lib.hid hsn; clear hsn
  have d1 : decide ((0 : Int) ≤ z) = false := by simp; omega
  have hE : Blk (w.alloc (Obj.cells s.cells 43)) w.heap.size 43 s.cells := Blk.new w _ _
  have hbW : Below w.heap.size w (w.alloc (Obj.cells s.cells 43)) := (Below.refl _ _).alloc (Nat.le_refl _) _
  go_enter Try.func65, Try.ntmps65
  go_wp2
  generalize (w.alloc (Obj.cells s.cells 43)) = W at *
  have c4 : ∀ W', Blk W' w.heap.size 43 s.cells → W'.cell? ⟨w.heap.size, 4, none⟩ = some (.int .i64 z) := fun W' h => by rw [← HS.out]; exact (h.cell 4).trans (s.cell_vote 4 _ rfl)
  have H4 := Lib.hid c4; clear c4
  refine wp_region_noPanic ?_
  refine wp_region_held_drew (S := fun w' => w'.cell? ⟨w.heap.size, 4, none⟩ = some (.int .i64 z)) (by kernel_rfl) (H4.out _ hE.drew) (fun hHeld => ?_)
  refine wpAnyH_takeD (some 5) (i := 0) (v := ?vh3_0) rfl rfl (by kernel_rfl) (by kernel_rfl) (by kernel_rfl) (fun _ _ _ h => h) (by rfl) ?hh3_0 (by assumption) ?_
  case hh3_0 => (intro wq hSw; (try dsimp only at hSw); go_simp; (try (with_reducible rfl)))
  go_frame
  refine wpAnyH_takeD (some 6) (i := 1) (v := ?vh3_1) rfl rfl (by kernel_rfl) (by kernel_rfl) (by kernel_rfl) (fun _ _ _ h => h) (by rfl) ?hh3_1 (by assumption) ?_
  case hh3_1 => (intro wq hSw; (try dsimp only at hSw); go_simp; (try (with_reducible rfl)))
  go_frame
  refine wpAnyH_takeD (some 7) (i := 2) (v := ?vh3_2) rfl rfl (by kernel_rfl) (by kernel_rfl) (by kernel_rfl) (fun _ _ _ h => h) (by rfl) ?hh3_2 (by assumption) ?_
  case hh3_2 => (intro wq hSw; (try dsimp only at hSw); go_simp; (try (with_reducible rfl)))
  go_frame
  refine wpAnyH_takeD (some 8) (i := 3) (v := ?vh3_3) rfl rfl (by kernel_rfl) (by kernel_rfl) (by kernel_rfl) (fun _ _ _ h => h) (by rfl) ?hh3_3 (by assumption) ?_
  case hh3_3 => (intro wq hSw; (try dsimp only at hSw); go_simp; (try (with_reducible rfl)))
  go_frame
  refine wpAnyH_takeD (some 9) (i := 4) (v := ?vh3_4) rfl rfl (by kernel_rfl) (by kernel_rfl) (by kernel_rfl) (fun _ _ _ h => h) (by rfl) ?hh3_4 (by assumption) ?_
  case hh3_4 => (intro wq hSw; (try dsimp only at hSw); go_simp; (try (with_reducible rfl)))
  go_frame
  refine wpAnyH_skipD (some 10) (i := 5) rfl rfl (by kernel_rfl) (by kernel_rfl) (by kernel_rfl) (fun _ _ _ h => h) (by rfl) (by assumption) ?_
  go_frame
  refine wpAnyH_skipD (some 11) (i := 6) rfl rfl (by kernel_rfl) (by kernel_rfl) (by kernel_rfl) (fun _ _ _ h => h) (by rfl) (by assumption) ?_
  go_frame
  refine wpAnyH_skipD (some 12) (i := 7) rfl rfl (by kernel_rfl) (by kernel_rfl) (by kernel_rfl) (fun _ _ _ h => h) (by rfl) (by assumption) ?_
  go_frame
  refine wpAnyH_skipD (some 13) (i := 8) rfl rfl (by kernel_rfl) (by kernel_rfl) (by kernel_rfl) (fun _ _ _ h => h) (by rfl) (by assumption) ?_
  go_frame
  refine wpAnyH_skipD (some 14) (i := 9) rfl rfl (by kernel_rfl) (by kernel_rfl) (by kernel_rfl) (fun _ _ _ h => h) (by rfl) (by assumption) ?_
  go_frame
  refine wpAnyH_skipD (some 15) (i := 10) rfl rfl (by kernel_rfl) (by kernel_rfl) (by kernel_rfl) (fun _ _ _ h => h) (by rfl) (by assumption) ?_
  go_frame
  refine wpAnyH_takeD (some 16) (i := 11) (v := ?vh3_11) rfl rfl (by kernel_rfl) (by kernel_rfl) (by kernel_rfl) (fun _ _ _ h => h) (by rfl) ?hh3_11 (by assumption) ?_
  case hh3_11 => (intro wq hSw; (try dsimp only at hSw); go_simp; (try (with_reducible rfl)))
  go_frame
  refine wpAnyH_takeD (some 17) (i := 12) (v := ?vh3_12) rfl rfl (by kernel_rfl) (by kernel_rfl) (by kernel_rfl) (fun _ _ _ h => h) (by rfl) ?hh3_12 (by assumption) ?_
  case hh3_12 => (intro wq hSw; (try dsimp only at hSw); go_simp; (try (with_reducible rfl)))
  go_frame
  refine wpAnyH_skipD (some 18) (i := 13) rfl rfl (by kernel_rfl) (by kernel_rfl) (by kernel_rfl) (fun _ _ _ h => h) (by rfl) (by assumption) ?_
  go_frame
  refine wpAnyH_skipD (some 19) (i := 14) rfl rfl (by kernel_rfl) (by kernel_rfl) (by kernel_rfl) (fun _ _ _ h => h) (by rfl) (by assumption) ?_
  go_frame
  refine wpAnyH_skipD (some 20) (i := 15) rfl rfl (by kernel_rfl) (by kernel_rfl) (by kernel_rfl) (fun _ _ _ h => h) (by rfl) (by assumption) ?_
  go_frame
  refine wpAnyH_skipD (some 21) (i := 16) rfl rfl (by kernel_rfl) (by kernel_rfl) (by kernel_rfl) (fun _ _ _ h => h) (by rfl) (by assumption) ?_
  go_frame
  refine wpAnyH_skipD (some 22) (i := 17) rfl rfl (by kernel_rfl) (by kernel_rfl) (by kernel_rfl) (fun _ _ _ h => h) (by rfl) (by assumption) ?_
  go_frame
  refine wpAnyH_skipD (some 23) (i := 18) rfl rfl (by kernel_rfl) (by kernel_rfl) (by kernel_rfl) (fun _ _ _ h => h) (by rfl) (by assumption) ?_
  go_frame
  refine wpAnyH_skipD (some 24) (i := 19) rfl rfl (by kernel_rfl) (by kernel_rfl) (by kernel_rfl) (fun _ _ _ h => h) (by rfl) (by assumption) ?_
  go_frame
  refine wpAnyH_skipD (some 25) (i := 20) rfl rfl (by kernel_rfl) (by kernel_rfl) (by kernel_rfl) (fun _ _ _ h => h) (by rfl) (by assumption) ?_
  go_frame
  refine wpAnyH_takeD (some 26) (i := 21) (v := ?vh3_21) rfl rfl (by kernel_rfl) (by kernel_rfl) (by kernel_rfl) (fun _ _ _ h => h) (by rfl) ?hh3_21 (by assumption) ?_
  case hh3_21 => (intro wq hSw; (try dsimp only at hSw); go_simp; (try (with_reducible rfl)))
  go_frame
  refine wpAnyH_takeD (some 4) (i := 22) (v := ?vh3_22) rfl rfl (by kernel_rfl) (by kernel_rfl) (by kernel_rfl) (fun _ _ _ h => h) (by rfl) ?hh3_22 (by assumption) ?_
  case hh3_22 => (intro wq hSw; (try dsimp only at hSw); go_simp; (try (with_reducible rfl)))
  go_frame
  refine wpAnyH_done (by kernel_rfl) ?_ _
  refine NoPanic.normal ?_
  go_wp2
  go_ret
  exact ⟨rfl, hbW.drew⟩

/-- A signed vote verifies with the key of its signer. -/
def verK (keys : List Nm) (v : Vt) (sig : List UInt8) : Bool := decide (0 ≤ v.signer) && (decide (v.signer < (keys.length : Int)) && verS (keys.getD v.signer.toNat Nm.zero) v sig)
theorem verify_any (K : Option Addr) (ck : Nat) (keys : List Nm) (s : Sg) (w : World) (hK : Rd w w.heap.size K (keys.flatMap nmc)) (hE : SgOk w w.heap.size s) (hca : SgCap s) :
    Calls Try.prog 65 #[.slice K keys.length ck, s.val] w (BoolPost w (verK keys s.vote s.sig)) := by
  unfold verK
  by_cases h0 : 0 ≤ s.vote.signer
  · obtain ⟨sn, hsn⟩ := Int.eq_ofNat_of_zero_le h0
    by_cases h1 : s.vote.signer < (keys.length : Int)
    · rw [decide_eq_true h0, decide_eq_true h1, Bool.true_and, Bool.true_and, show s.vote.signer.toNat = sn from by rw [hsn]; rfl]
      have hlt : sn < keys.length := by omega
      have hx := getD_some Nm.zero hlt
      have hne : keys.flatMap nmc ≠ [] := by
        intro e0
        have := flat_length nmc 8 keys (nmc_len keys)
        rw [e0] at this
        simp at this; omega
      obtain ⟨b, o, rfl, _, _⟩ := hK.cells hne
      exact verify_in _ keys.length ck s w sn hsn b o rfl (keys.getD sn Nm.zero) _ hlt (fun W hW => (hK.below hW).row hx) (fun W hW => rsver_any _ s W ((hE.below hW).more hW.size) hca)
    · rw [decide_eq_true h0, decide_eq_false h1]
      exact verify_hi K keys.length ck s w sn hsn (by omega)
  · rw [decide_eq_false h0]
    exact verify_lo K keys.length ck s w _ rfl (by omega)
end Go.Proofs.Ythmecidpjlaonaa
namespace Go.Proofs.Ythmecidpjlaonaa
open Go.RowKit
attribute [local go_sem ↓] Go.wp_at_zero Go.wp_at_succ loadNm loadVt loadSg loadEv
attribute [local go_sem] runNm runVt runSg runEv pickRow_some rowAt_drew rowAt_drewN

/-- The error of an element, by the reference's way. -/
theorem faultF_ver (keys : List Nm) (a b : Vt) (s t : List UInt8) (before : Int) (h : ConfP a b) (hl : lessV a b = true) (hb : ¬ a.signer ≤ before) :
    faultF keys a s b t before = if verK keys a s = true ∧ verK keys b t = true then 0 else 8 := by
  have hs : b.signer = a.signer := h.2.1.2.2.2.2.symm
  have h0 : 0 ≤ a.signer := h.2.2.1.bounds.2.2.2.2.1.1
  unfold faultF verK
  rw [if_pos ⟨h, hl⟩, if_neg hb, hs, decide_eq_true h0, Bool.true_and, Bool.true_and]
  by_cases h1 : a.signer < (keys.length : Int)
  · rw [if_neg (by omega), decide_eq_true h1, Bool.true_and, Bool.true_and]
  · rw [if_pos (by omega), decide_eq_false h1]
    simp
/-- Two votes in new blocks. -/
def TwoV (W : World) (a b : Vt) (s t : Value) (wx : World) : Prop := ∃ g h, s = .pointer (some ⟨g, 0, none⟩) ∧ t = .pointer (some ⟨h, 0, none⟩) ∧ Blk wx g 41 a.cells ∧ Blk wx h 41 b.cells ∧ Below W.heap.size W wx
/-- Where the reference's Check stands at the head of its loop. -/
def RChkRel (keys : List Nm) (p : List UInt8) (w : World) (x : Nat) (r : Int × Int) (g bf iv : Value) (wr : World) : Prop :=
  ∃ (i k : Nat) (before : Int) (m : Nat), g = .int .i64 (m : Int) ∧ bf = .int .i64 before ∧ iv = .int .i64 (i : Int) ∧ i + k = x ∧ m < 1024 ∧ checkL keys k (p.drop (1 + 786 * i)) before m = r ∧ Below w.heap.size w wr

set_option maxRecDepth 100000 in
set_option maxHeartbeats 8000000 in
theorem rcheck_core (K A : Option Addr) (nk ck n c : Nat) (keys : List Nm) (p : List UInt8) (r : Int × Int) (w : World) (hnk : keys.length = nk) (hn : p.length = n) (hK : Rd w w.heap.size K (keys.flatMap nmc)) (hr : Rd w w.heap.size A (p.map B))
    (hc : n ≤ c) (hm : c ≤ maxLen) (hres : checkF keys p = r) : Calls Try.prog 23 #[.slice K nk ck, .slice A n c] w (CheckPost w r) := by
  have HNK := Lib.hid hnk; clear hnk
  have HN := Lib.hid hn; clear hn
  have HK := Lib.hid hK; clear hK
  have HR := Lib.hid hr; clear hr
  have HRes := Lib.hid hres; clear hres
  unfold maxLen at hm
  rcases p with _ | ⟨x, rl⟩
  · obtain rfl : n = 0 := HN.out.symm
    have E : Hid (r = (0, 2)) := HRes.out.symm
    go_enter Try.func23, Try.ntmps23
    go_wp2
    go_ret2
    exact ⟨by rw [E.out]; rfl, Below.refl _ _⟩
  · have h1 : rl.length + 1 = n := HN.out
    obtain ⟨b, o, rfl, hb, hcell⟩ := HR.out.cells (by simp)
    have c0 : w.cell? ⟨b, o, none⟩ = some (B x) := hcell 0 _ rfl
    clear hcell
    have hx := x.toNat_lt
    have en : ((n : Int) == 0) = false := by rw [beq_eq_false_iff_ne]; omega
    have i1 : (1 : Int) ≤ (n : Int) := by omega
    have hres : (if x.toNat = 0 ∨ 10 < x.toNat then (0, 4) else if rl.length < x.toNat * 786 then (0, 2) else if x.toNat * 786 < rl.length then (0, 3) else checkL keys x.toNat rl (-1) 0) = r := HRes.out
    clear HRes
    by_cases g0 : x.toNat = 0
    · have e0 : ((x.toNat : Int) == 0) = true := by rw [g0]; rfl
      rw [if_pos (.inl g0)] at hres
      have E := Lib.hid hres.symm
      clear hres g0 h1
      go_enter Try.func23, Try.ntmps23
      go_wp2
      go_ret2
      exact ⟨by rw [E.out]; rfl, Below.refl _ _⟩
    · have e0 : ((x.toNat : Int) == 0) = false := by rw [beq_eq_false_iff_ne]; omega
      by_cases g1 : 10 < x.toNat
      · have e1 : decide ((10 : Int) < (x.toNat : Int)) = true := by simp; omega
        rw [if_pos (.inr g1)] at hres
        have E := Lib.hid hres.symm
        clear hres g0 h1
        go_enter Try.func23, Try.ntmps23
        go_wp2
        go_ret2
        exact ⟨by rw [E.out]; rfl, Below.refl _ _⟩
      · have e1 : decide ((10 : Int) < (x.toNat : Int)) = false := by simp; omega
        rw [if_neg (by omega)] at hres
        by_cases g2 : rl.length < x.toNat * 786
        · rw [if_pos g2] at hres
          have E := Lib.hid hres.symm
          have g2' : n < 1 + 786 * x.toNat := by omega
          clear hres g2 h1
          go_enter Try.func23, Try.ntmps23
          go_wp2
          go_ret2
          exact ⟨by rw [E.out]; rfl, Below.refl _ _⟩
        · rw [if_neg g2] at hres
          by_cases g3 : x.toNat * 786 < rl.length
          · rw [if_pos g3] at hres
            have E := Lib.hid hres.symm
            have g3' : 1 + 786 * x.toNat < n := by omega
            clear hres g2 g3 h1
            go_enter Try.func23, Try.ntmps23
            go_wp2
            go_ret2
            exact ⟨by rw [E.out]; rfl, Below.refl _ _⟩
          · rw [if_neg g3] at hres
            have g2' : 1 + 786 * x.toNat ≤ n := by omega
            have g3' : n ≤ 1 + 786 * x.toNat := by omega
            obtain ⟨p, hp⟩ : ∃ p, p = x :: rl := ⟨_, rfl⟩
            rw [← hp] at HN HR
            have HRes : Hid (checkL keys x.toNat (p.drop (1 + 786 * 0)) (-1) 0 = r) := by rw [hp]; exact hres
            clear hres g2 g3 h1 hp
            go_enter Try.func23, Try.ntmps23
            go_wp2
            go_loopw [7, 8, 9] (fun g bf iv wr => RChkRel keys p w x.toNat r g bf iv wr) (fun _ _ iv _ => x.toNat - (intOf iv).toNat)
            case atStart => exact ⟨0, x.toNat, -1, 0, rfl, rfl, rfl, by omega, by omega, HRes.out, Below.refl _ _⟩
            case round =>
              clear HRes e0 c0
              obtain ⟨i, k, before, m, rfl, rfl, rfl, hik, hm10, hck, hbw⟩ := hrel
              have HCk := Lib.hid hck; clear hck
              generalize x.toNat = X at *
              cases k with
              | zero =>
                obtain rfl : X = i := by omega
                have E : Hid (r = ((m : Int), 0)) := HCk.out.symm
                clear hik HCk
                go_wp2
                go_ret2
                exact ⟨by rw [E.out]; rfl, hbw⟩
              | succ k =>
                obtain ⟨at_, hat⟩ : ∃ at_, at_ = 1 + 786 * i := ⟨_, rfl⟩
                have hlt : i < X := by omega
                have hat2 : at_ + 786 ≤ n := by omega
                have HAt := Lib.hid hat
                rw [← hat] at HCk
                have hik2 : i + 1 + k = X := by omega
                clear hat hik
                have i2 : ¬ c = 1 + 786 * i := by omega
                have hll : (p.drop at_).length = n - at_ := by rw [List.length_drop, HN.out]
                have hrd : Rd w w.heap.size (some ⟨b, o + (1 + 786 * i), none⟩) ((p.drop at_).map B) := by
                  obtain ⟨b', o', e, hb', hc'⟩ := HR.out.cells (by intro e; rw [List.map_eq_nil_iff] at e; have := HN.out; rw [e] at this; simp at this; omega)
                  injection e with e
                  injection e with e1 e2
                  subst e1; subst e2
                  refine Rd.mk hb' fun j u hu => ?_
                  rw [Nat.add_assoc, ← HAt.out]
                  exact hc' _ u (by rw [List.map_drop, List.getElem?_drop] at hu; exact hu)
                have hrt : Rd w w.heap.size (some ⟨b, o + (1 + 786 * i), none⟩) (((p.drop at_).take 786).map B) := by rw [List.map_take]; exact hrd.take 786
                have hlt7 : ((p.drop at_).take 786).length = 786 := by rw [List.length_take, hll]; omega
                have hcc : 786 ≤ c - (1 + 786 * i) := by have := HAt.out; omega
                have e786 : 787 + 786 * i - (1 + 786 * i) = 786 := by omega
                have E786 := Lib.hid e786
                clear e786
                have hd : checkL keys (k + 1) (p.drop at_) before m = r := HCk.out
                rw [checkL, List.drop_drop, show at_ + 786 = 1 + 786 * (i + 1) from by rw [HAt.out]; omega] at hd
                by_cases h1 : (voteA (p.drop at_)).2 = 0 ∧ (voteB (p.drop at_)).2 = 0
                · have hdec := fun W (hW : Below w.heap.size w W) => redec_ok_any (some ⟨b, o + (1 + 786 * i), none⟩) (c - (1 + 786 * i)) ((p.drop at_).take 786) W ((hrt.below hW).more hW.size) hlt7 hcc (by unfold maxLen; omega) (by rw [voteA_take]; exact h1.1) (by rw [voteB_take]; exact h1.2)
                  rw [voteA_take, voteB_take, sigA_take, sigB_take] at hdec
                  have HDec := Lib.hid hdec
                  have HSA := Lib.hid (sigA_len (p.drop at_) (by rw [hll]; omega))
                  have HSB := Lib.hid (sigB_len (p.drop at_) (by rw [hll]; omega))
                  have HOA : Hid (voteA (p.drop at_)).1.ok := decVote_ok _
                  have HOB : Hid (voteB (p.drop at_)).1.ok := decVote_ok _
                  have hel : elemF keys (p.drop at_) before = faultF keys (voteA (p.drop at_)).1 (sigA (p.drop at_)) (voteB (p.drop at_)).1 (sigB (p.drop at_)) before := by unfold elemF; rw [if_neg (by simpa using h1.1), if_neg (by simpa using h1.2)]
                  rw [hel] at hd
                  have HD := Lib.hid hd
                  clear hdec hrt hrd hll hlt7 hcc hel h1 hd HCk
                  generalize (voteA (p.drop at_)).1 = va at *
                  generalize (voteB (p.drop at_)).1 = vb at *
                  generalize sigA (p.drop at_) = sa at *
                  generalize sigB (p.drop at_) = sb at *
                  go_wp2_with fail
                  rw [E786.out]
                  refine (HDec.out _ hbw).mono ?_
                  rintro en w2 ⟨A2, c2, A3, c3, rfl, hn2, hn3, hr2, hc2, hm2, hr3, hc3, hm3, hb2⟩
                  obtain ⟨E, hE⟩ : ∃ E : Ev, E = ⟨⟨va, sa, A2, c2⟩, ⟨vb, sb, A3, c3⟩⟩ := ⟨_, rfl⟩
                  have hEok : EvOk w2 w2.heap.size E := by rw [hE]; exact ⟨⟨HOA.out, hr2, by rw [HSA.out]; omega⟩, ⟨HOB.out, hr3, by rw [HSB.out]; omega⟩⟩
                  have hEca : SgCap E.a := by rw [hE]; exact ⟨hc2, hm2⟩
                  have hEcb : SgCap E.b := by rw [hE]; exact ⟨hc3, hm3⟩
                  have hEa : E.a.vote = va ∧ E.a.sig = sa := by rw [hE]; exact ⟨rfl, rfl⟩
                  have hEb : E.b.vote = vb ∧ E.b.sig = sb := by rw [hE]; exact ⟨rfl, rfl⟩
                  rw [← hE]
                  have hbw2 := hbw.trans (hb2.mono hbw.size)
                  clear hE hn2 hn3 hr2 hc2 hm2 hr3 hc3 hm3 hb2 hbw
                  have HVa : Hid (∀ W, Below w2.heap.size w2 W → Calls Try.prog 65 #[.slice K nk ck, E.a.val] W (BoolPost W (verK keys va sa))) := fun W hW => by
                    have h := verify_any K ck keys E.a W ((HK.out.below (hbw2.trans (hW.mono hbw2.size))).more (hbw2.trans (hW.mono hbw2.size)).size) ((hEok.1.below hW).more hW.size) hEca
                    rw [hEa.1, hEa.2, HNK.out] at h
                    exact h
                  have HVb : Hid (∀ W, Below w2.heap.size w2 W → Calls Try.prog 65 #[.slice K nk ck, E.b.val] W (BoolPost W (verK keys vb sb))) := fun W hW => by
                    have h := verify_any K ck keys E.b W ((HK.out.below (hbw2.trans (hW.mono hbw2.size))).more (hbw2.trans (hW.mono hbw2.size)).size) ((hEok.2.below hW).more hW.size) hEcb
                    rw [hEb.1, hEb.2, HNK.out] at h
                    exact h
                  have HCo : Hid (∀ W, Calls Try.prog 29 #[va.val, vb.val] W (BoolPost W (decide (ConfP va vb)))) := fun W => rconf_any va vb W HOA.out HOB.out
                  have HLe : Hid (∀ W, Calls Try.prog 64 #[va.val, vb.val] W (BoolPost W (lessV va vb))) := fun W => rvless_any va vb W
                  have HEa := Lib.hid hEa
                  have HEb := Lib.hid hEb
                  clear hEok hEca hEcb hEa hEb
                  go_wp2_with (refine wpList_store_blk rfl 45 (.tmp 10) (.tmp 54) rfl w2.heap.size E.cells rfl rfl 45 zeroEc (Blk.new w2 _ _) (by rw [Ev.size_cells]; rfl) (by rw [Ev.size_cells]; exact size_ev) (fun u hu => one_ev E hu) ?_)
                  intro w3 hV3 hg3 hs3
                  have hb23 : Below w2.heap.size w2 w3 := ((Below.refl _ _).alloc (Nat.le_refl _) _).grown hg3 (by simp) (by rintro j ⟨⟩; omega)
                  have hl3 := hV3.lt
                  clear hg3 hs3
                  go_upto_region 17 with fail
                  go_cut [12, 13] (fun s t wx => TwoV w3 va vb s t wx)
                  case first =>
                    have HS : Hid (∀ W, Below w3.heap.size w3 W → rowAt W w2.heap.size 0 22 = some va.cells ∧ rowAt W w2.heap.size 23 22 = some vb.cells) := fun W hW => by
                      have h := hV3.below hW hl3
                      have h1 := E.row_va h
                      have h2 := E.row_vb h
                      rw [HEa.out.1] at h1
                      rw [HEb.out.1] at h2
                      exact ⟨h1, h2⟩
                    have hN1 : Blk ((w3.drew.alloc (.cells zeroVc 41)).alloc (.cells zeroVc 41)) w3.heap.size 41 zeroVc := (Blk.new w3.drew _ _).alloc _
                    have hN2 : Blk ((w3.drew.alloc (.cells zeroVc 41)).alloc (.cells zeroVc 41)) (w3.heap.size + 1) 41 zeroVc := by simpa using Blk.new (w3.drew.alloc (.cells zeroVc 41)) 41 zeroVc
                    have hbA1 : Below w3.heap.size w3 (w3.drew.alloc (.cells zeroVc 41)) := (Below.refl _ _).drew.alloc (Nat.le_refl _) _
                    have hbA : Below w3.heap.size w3 ((w3.drew.alloc (.cells zeroVc 41)).alloc (.cells zeroVc 41)) := hbA1.alloc hbA1.size _
                    refine wp_region_noPanic ?_
                    refine wp_region_held_drew (S := fun w' => rowAt w' w2.heap.size 0 22 = some va.cells ∧ rowAt w' w2.heap.size 23 22 = some vb.cells) (by kernel_rfl) (HS.out _ (Below.refl _ _).drew) (fun hHeld => ?_)
                    refine wpAnyH_takeD (some 59) (i := 0) (v := ?vh1_0) rfl rfl (by kernel_rfl) (by kernel_rfl) (by kernel_rfl) (fun _ _ _ h => h) (by rfl) ?hh1_0 (by assumption) ?_
                    case hh1_0 => (intro wq hSw; (try dsimp only at hSw); go_simp; (try (with_reducible rfl)))
                    go_frame
                    refine wpAnyH_takeD (some 60) (i := 1) (v := ?vh1_1) rfl rfl (by kernel_rfl) (by kernel_rfl) (by kernel_rfl) (fun _ _ _ h => h) (by rfl) ?hh1_1 (by assumption) ?_
                    case hh1_1 => (intro wq hSw; (try dsimp only at hSw); go_simp; (try (with_reducible rfl)))
                    go_frame
                    refine wpAnyH_takeD (some 61) (i := 2) (v := ?vh1_2) rfl rfl (by kernel_rfl) (by kernel_rfl) (by kernel_rfl) (fun _ _ _ h => h) (by rfl) ?hh1_2 (by assumption) ?_
                    case hh1_2 => (intro wq hSw; (try dsimp only at hSw); go_simp; (try (with_reducible rfl)))
                    go_frame
                    refine wpAnyH_takeD (some 62) (i := 3) (v := ?vh1_3) rfl rfl (by kernel_rfl) (by kernel_rfl) (by kernel_rfl) (fun _ _ _ h => h) (by rfl) ?hh1_3 (by assumption) ?_
                    case hh1_3 => (intro wq hSw; (try dsimp only at hSw); go_simp; (try (with_reducible rfl)))
                    go_frame
                    refine wpAnyH_takeD (some 63) (i := 4) (v := ?vh1_4) rfl rfl (by kernel_rfl) (by kernel_rfl) (by kernel_rfl) (fun _ _ _ h => h) (by rfl) ?hh1_4 (by assumption) ?_
                    case hh1_4 => (intro wq hSw; (try dsimp only at hSw); go_simp; (try (with_reducible rfl)))
                    go_frame
                    refine wpAnyH_takeD (some 64) (i := 5) (v := ?vh1_5) rfl rfl (by kernel_rfl) (by kernel_rfl) (by kernel_rfl) (fun _ _ _ h => h) (by rfl) ?hh1_5 (by assumption) ?_
                    case hh1_5 => (intro wq hSw; (try dsimp only at hSw); go_simp; (try (with_reducible rfl)))
                    go_frame
                    refine wpAnyH_ready (rs := [6, 7]) (by kernel_rfl) (by simp) ?_
                    refine AllReadyH.cons rfl (fun K hK => ?_) (AllReadyH.cons rfl (fun K hK => ?_) AllReadyH.nil)
                    · go_simp
                      refine hK.out _ _ (HS.out _ hbA1) (fun hHeld => ?_)
                      clear hK K
                      try go_frame
                      refine wpAnyH_ready (rs := [7]) (by kernel_rfl) (by simp) ?_
                      refine AllReadyH.cons rfl (fun K hK => ?_) AllReadyH.nil
                      go_simp
                      refine hK.out _ _ (HS.out _ hbA) (fun hHeld => ?_)
                      clear hK K
                      try go_frame
                      refine wpAnyH_ready (rs := [8]) (by kernel_rfl) (by simp) ?_
                      refine AllReadyH.cons rfl (fun K hK => ?_) AllReadyH.nil
                      rw [if_pos (by rfl)]
                      refine wp_store_blk 41 (.tmp 12) (.tmp 61) (by rfl) w3.heap.size va.cells (by rfl) (by rfl) 41 zeroVc hN1 rfl size_vote (fun u hu => one_vt va hu) rfl ?_; intro w5 hA5 hg5 hs5; have hB5 := hN2.kept hg5 (by simp); have hb5 : Below w3.heap.size w3 w5 := hbA.grown hg5 hbA.size (by rintro j ⟨⟩; omega)
                      refine hK.out _ _ (HS.out _ hb5) (fun hHeld => ?_)
                      clear hK K
                      try go_frame
                      refine wpAnyH_ready (rs := [9]) (by kernel_rfl) (by simp) ?_
                      refine AllReadyH.cons rfl (fun K hK => ?_) AllReadyH.nil
                      rw [if_pos (by rfl)]
                      refine wp_store_blk 41 (.tmp 13) (.tmp 64) (by rfl) (w3.heap.size + 1) vb.cells (by rfl) (by rfl) 41 zeroVc hB5 rfl size_vote (fun u hu => one_vt vb hu) rfl ?_; intro w6 hB6 hg6 hs6; have hA6 := hA5.kept hg6 (by simp); have hb6 : Below w3.heap.size w3 w6 := hb5.grown hg6 hb5.size (by rintro j ⟨⟩; omega)
                      refine hK.out _ _ (HS.out _ hb6) (fun hHeld => ?_)
                      clear hK K
                      try go_frame
                      refine wpAnyH_done (by kernel_rfl) ?_ _
                      refine NoPanic.normal ?_
                      go_wp2_with fail
                      go_meet
                      exact ⟨_, _, rfl, rfl, hA6, hB6, hb6⟩
                    · go_simp
                      refine hK.out _ _ (HS.out _ hbA1) (fun hHeld => ?_)
                      clear hK K
                      try go_frame
                      refine wpAnyH_ready (rs := [6]) (by kernel_rfl) (by simp) ?_
                      refine AllReadyH.cons rfl (fun K hK => ?_) AllReadyH.nil
                      go_simp
                      refine hK.out _ _ (HS.out _ hbA) (fun hHeld => ?_)
                      clear hK K
                      try go_frame
                      refine wpAnyH_ready (rs := [8]) (by kernel_rfl) (by simp) ?_
                      refine AllReadyH.cons rfl (fun K hK => ?_) AllReadyH.nil
                      rw [if_pos (by rfl)]
                      refine wp_store_blk 41 (.tmp 12) (.tmp 61) (by rfl) (w3.heap.size + 1) va.cells (by rfl) (by rfl) 41 zeroVc hN2 rfl size_vote (fun u hu => one_vt va hu) rfl ?_; intro w5 hA5 hg5 hs5; have hB5 := hN1.kept hg5 (by simp); have hb5 : Below w3.heap.size w3 w5 := hbA.grown hg5 hbA.size (by rintro j ⟨⟩; omega)
                      refine hK.out _ _ (HS.out _ hb5) (fun hHeld => ?_)
                      clear hK K
                      try go_frame
                      refine wpAnyH_ready (rs := [9]) (by kernel_rfl) (by simp) ?_
                      refine AllReadyH.cons rfl (fun K hK => ?_) AllReadyH.nil
                      rw [if_pos (by rfl)]
                      refine wp_store_blk 41 (.tmp 13) (.tmp 64) (by rfl) w3.heap.size vb.cells (by rfl) (by rfl) 41 zeroVc hB5 rfl size_vote (fun u hu => one_vt vb hu) rfl ?_; intro w6 hB6 hg6 hs6; have hA6 := hA5.kept hg6 (by simp); have hb6 : Below w3.heap.size w3 w6 := hb5.grown hg6 hb5.size (by rintro j ⟨⟩; omega)
                      refine hK.out _ _ (HS.out _ hb6) (fun hHeld => ?_)
                      clear hK K
                      try go_frame
                      refine wpAnyH_done (by kernel_rfl) ?_ _
                      refine NoPanic.normal ?_
                      go_wp2_with fail
                      go_meet
                      exact ⟨_, _, rfl, rfl, hA6, hB6, hb6⟩
                  case rest =>
                    obtain ⟨g1, g2, rfl, rfl, hG1, hG2, hb34⟩ := hcut
                    have hb2c := hb23.trans (hb34.mono hb23.size)
                    have hEc := hV3.below hb34 hl3
                    have x1 := hG1.row 22 rfl
                    have y1 := hG2.row 22 rfl
                    clear hV3 hb23 hb34 hl3
                    by_cases hcf : ConfP va vb
                    · have HCo1 : Hid (∀ W, Calls Try.prog 29 #[va.val, vb.val] W (BoolPost W true)) := fun W => by have h := HCo.out W; rw [decide_eq_true hcf] at h; exact h
                      obtain ⟨sn, hsn⟩ : ∃ sn : Nat, va.signer = (sn : Int) := ⟨va.signer.toNat, by have := hcf.2.2.1.bounds.2.2.2.2.1.1; omega⟩
                      have hs9 : sn ≤ 9 := by have := hcf.2.2.1.bounds.2.2.2.2.1.2; omega
                      have C4 : Hid (∀ W, Blk W g1 41 va.cells → W.cell? ⟨g1, 4, none⟩ = some (.int .i64 (sn : Int))) := fun W h => by rw [← hsn]; exact h.cell 4
                      by_cases hls : lessV va vb = true
                      · have HLe1 : Hid (∀ W, Calls Try.prog 64 #[va.val, vb.val] W (BoolPost W true)) := fun W => by have h := HLe.out W; rw [hls] at h; exact h
                        by_cases hsb : (sn : Int) ≤ before
                        · have E2 : Hid (r = (0, 10)) := by
                            have hf : faultF keys va sa vb sb before = 10 := by unfold faultF; rw [if_pos ⟨hcf, hls⟩, if_pos (by rw [hsn]; exact hsb)]
                            have h := HD.out; rw [hf, if_neg (by decide)] at h; exact h.symm
                          clear HD hcf hls HCo HLe
                          go_wp2_with (first | (go_at_call 29; refine (HCo1.out _).mono ?_; rintro en w4 ⟨rfl, hb4⟩; have hP4 := hG1.below hb4 hG1.lt; have hQ4 := hG2.below hb4 hG2.lt; have hE4 := hEc.below hb4 hEc.lt; have x4 := hP4.row 22 rfl; have y4 := hQ4.row 22 rfl; have hb24 := hb2c.trans (hb4.mono hb2c.size)) | (go_at_call 64; refine (HLe1.out _).mono ?_; rintro en w5 ⟨rfl, hb5⟩; have hP5 := hP4.below hb5 hP4.lt; have hE5 := hE4.below hb5 hE4.lt; have c5 := C4.out _ hP5; have x5 := E.row_a hE5; have hb25 := hb24.trans (hb5.mono hb24.size)))
                          go_ret2
                          exact ⟨by rw [E2.out]; rfl, hbw2.trans (hb25.mono hbw2.size)⟩
                        · have hfv := faultF_ver keys va vb sa sb before hcf hls (by rw [hsn]; exact hsb)
                          by_cases hva : verK keys va sa = true
                          · have HVa1 : Hid (∀ W, Below w2.heap.size w2 W → Calls Try.prog 65 #[.slice K nk ck, E.a.val] W (BoolPost W true)) := fun W hW => by have h := HVa.out W hW; rw [hva] at h; exact h
                            by_cases hvb : verK keys vb sb = true
                            · have HVb1 : Hid (∀ W, Below w2.heap.size w2 W → Calls Try.prog 65 #[.slice K nk ck, E.b.val] W (BoolPost W true)) := fun W hW => by have h := HVb.out W hW; rw [hvb] at h; exact h
                              have HNext : Hid (checkL keys k (p.drop (1 + 786 * (i + 1))) (sn : Int) (m ||| 2 ^ sn) = r) := by
                                rw [if_pos ⟨hva, hvb⟩] at hfv; have h := HD.out; rw [hfv, if_pos rfl, hsn, Int.toNat_natCast] at h; exact h
                              obtain ⟨q, hq⟩ : ∃ q, q = 2 ^ sn := ⟨_, rfl⟩
                              have hq10 : q < 1024 := by rw [hq]; exact Nat.pow_lt_pow_right (n := 10) (by omega) (by omega)
                              have HBit : Hid (∀ W, Calls Try.prog 28 #[.int .i64 (sn : Int)] W fun e w' => e = .returned (.int .i64 (q : Int)) ∧ w' = W) := fun W => by rw [hq]; exact bit_any sn W hs9
                              have hor := i64_or m q (by omega) (by omega)
                              have hmq : m ||| q < 1024 := by rw [hq]; exact or_lt10 m sn hm10 hs9
                              have HQ := Lib.hid hq
                              clear hq
                              obtain ⟨mq, hmqe⟩ : ∃ mq, mq = m ||| q := ⟨_, rfl⟩
                              rw [← hmqe] at hor hmq
                              have HMQ := Lib.hid hmqe
                              clear hmqe HD hcf hls hfv hva hvb HCo HLe HVa HVb hsn
                              go_upto_region 24 with (first | (go_at_call 29; refine (HCo1.out _).mono ?_; rintro en w4 ⟨rfl, hb4⟩; have hP4 := hG1.below hb4 hG1.lt; have hQ4 := hG2.below hb4 hG2.lt; have hE4 := hEc.below hb4 hEc.lt; have x4 := hP4.row 22 rfl; have y4 := hQ4.row 22 rfl; have hb24 := hb2c.trans (hb4.mono hb2c.size)) | (go_at_call 64; refine (HLe1.out _).mono ?_; rintro en w5 ⟨rfl, hb5⟩; have hP5 := hP4.below hb5 hP4.lt; have hE5 := hE4.below hb5 hE4.lt; have c5 := C4.out _ hP5; have x5 := E.row_a hE5; have hb25 := hb24.trans (hb5.mono hb24.size)) | (go_at_call 65; (with_reducible refine (HVa1.out _ hb25).mono ?_); rintro en w6 ⟨rfl, hb6⟩; have hP6 := hP5.below hb6 hP5.lt; have hE6 := hE5.below hb6 hE5.lt; have c6 := C4.out _ hP6; have y6 := E.row_b hE6; have hb26 := hb25.trans (hb6.mono hb25.size)) | (go_at_call 65; (with_reducible refine (HVb1.out _ hb26).mono ?_); rintro en w7 ⟨rfl, hb7⟩; have hP7 := hP6.below hb7 hP6.lt; have c7 := C4.out _ hP7; have hb27 := hb26.trans (hb7.mono hb26.size)))
                              refine wp_region_noPanic ?_
                              refine wp_region_held_drew (S := fun w' => w'.cell? ⟨g1, 4, none⟩ = some (.int .i64 (sn : Int))) (by kernel_rfl) (c7) (fun hHeld => ?_)
                              refine wpAnyH_takeD (some 91) (i := 0) (v := ?vh4_0) rfl rfl (by kernel_rfl) (by kernel_rfl) (by kernel_rfl) (fun _ _ _ h => h) (by rfl) ?hh4_0 (by assumption) ?_
                              case hh4_0 => (intro wq hSw; (try dsimp only at hSw); go_simp; (try (with_reducible rfl)))
                              go_frame
                              refine wpAnyH_takeD (some 92) (i := 1) (v := ?vh4_1) rfl rfl (by kernel_rfl) (by kernel_rfl) (by kernel_rfl) (fun _ _ _ h => h) (by rfl) ?hh4_1 (by assumption) ?_
                              case hh4_1 => (intro wq hSw; (try dsimp only at hSw); go_simp; (try (with_reducible rfl)))
                              go_frame
                              refine wpAnyH_takeD (some 93) (i := 2) (v := ?vh4_2) rfl rfl (by kernel_rfl) (by kernel_rfl) (by kernel_rfl) (fun _ _ _ h => h) (by rfl) ?hh4_2 (by assumption) ?_
                              case hh4_2 => (intro wq hSw; (try dsimp only at hSw); go_simp; (try (with_reducible rfl)))
                              go_frame
                              refine wpAnyH_takeD (some 96) (i := 5) (v := ?vh4_5) rfl rfl (by kernel_rfl) (by kernel_rfl) (by kernel_rfl) (fun _ _ _ h => h) (by rfl) ?hh4_5 (by assumption) ?_
                              case hh4_5 => (intro wq hSw; (try dsimp only at hSw); go_simp; (try (with_reducible rfl)))
                              go_frame
                              refine wpAnyH_takeD (some 97) (i := 6) (v := ?vh4_6) rfl rfl (by kernel_rfl) (by kernel_rfl) (by kernel_rfl) (fun _ _ _ h => h) (by rfl) ?hh4_6 (by assumption) ?_
                              case hh4_6 => (intro wq hSw; (try dsimp only at hSw); go_simp; (try (with_reducible rfl)))
                              go_frame
                              refine wpAnyH_ready (rs := [3]) (by kernel_rfl) (by simp) ?_
                              refine AllReadyH.cons rfl (fun K hK => ?_) AllReadyH.nil
                              go_simp
                              refine (HBit.out _).mono ?_; rintro en w' ⟨rfl, rfl⟩
                              go_wp2_with fail
                              refine hK.out _ _ (c7) (fun hHeld => ?_)
                              clear hK K
                              try go_frame
                              refine wpAnyH_takeD (some 95) (i := 4) (v := ?vh4_4) rfl rfl (by kernel_rfl) (by kernel_rfl) (by kernel_rfl) (fun _ _ _ h => h) (by rfl) ?hh4_4 (by assumption) ?_
                              case hh4_4 => (intro wq hSw; (try dsimp only at hSw); go_simp; (try (with_reducible rfl)))
                              go_frame
                              refine wpAnyH_takeD (some 7) (i := 7) (v := ?vh4_7) rfl rfl (by kernel_rfl) (by kernel_rfl) (by kernel_rfl) (fun _ _ _ h => h) (by rfl) ?hh4_7 (by assumption) ?_
                              case hh4_7 => (intro wq hSw; (try dsimp only at hSw); go_simp; (try (with_reducible rfl)))
                              go_frame
                              refine wpAnyH_takeD (some 8) (i := 8) (v := ?vh4_8) rfl rfl (by kernel_rfl) (by kernel_rfl) (by kernel_rfl) (fun _ _ _ h => h) (by rfl) ?hh4_8 (by assumption) ?_
                              case hh4_8 => (intro wq hSw; (try dsimp only at hSw); go_simp; (try (with_reducible rfl)))
                              go_frame
                              refine wpAnyH_done (by kernel_rfl) ?_ _
                              refine NoPanic.normal ?_
                              go_wp2_with fail
                              go_roundw
                              case rel => exact ⟨i + 1, k, sn, mq, rfl, rfl, by go_num, by omega, hmq, by rw [HMQ.out, HQ.out]; exact HNext.out, hbw2.trans (hb27.drew.mono hbw2.size)⟩
                              case measure => simp [intOf]; omega
                            · have HVb1 : Hid (∀ W, Below w2.heap.size w2 W → Calls Try.prog 65 #[.slice K nk ck, E.b.val] W (BoolPost W false)) := fun W hW => by have h := HVb.out W hW; rw [Bool.eq_false_iff.mpr hvb] at h; exact h
                              have E2 : Hid (r = (0, 8)) := by
                                rw [if_neg (fun hh => hvb hh.2)] at hfv; have h := HD.out; rw [hfv, if_neg (by decide)] at h; exact h.symm
                              clear HD hcf hls hfv HCo HLe
                              go_wp2_with (first | (go_at_call 29; refine (HCo1.out _).mono ?_; rintro en w4 ⟨rfl, hb4⟩; have hP4 := hG1.below hb4 hG1.lt; have hQ4 := hG2.below hb4 hG2.lt; have hE4 := hEc.below hb4 hEc.lt; have x4 := hP4.row 22 rfl; have y4 := hQ4.row 22 rfl; have hb24 := hb2c.trans (hb4.mono hb2c.size)) | (go_at_call 64; refine (HLe1.out _).mono ?_; rintro en w5 ⟨rfl, hb5⟩; have hP5 := hP4.below hb5 hP4.lt; have hE5 := hE4.below hb5 hE4.lt; have c5 := C4.out _ hP5; have x5 := E.row_a hE5; have hb25 := hb24.trans (hb5.mono hb24.size)) | (go_at_call 65; (with_reducible refine (HVa1.out _ hb25).mono ?_); rintro en w6 ⟨rfl, hb6⟩; have hP6 := hP5.below hb6 hP5.lt; have hE6 := hE5.below hb6 hE5.lt; have c6 := C4.out _ hP6; have y6 := E.row_b hE6; have hb26 := hb25.trans (hb6.mono hb25.size)) | (go_at_call 65; (with_reducible refine (HVb1.out _ hb26).mono ?_); rintro en w7 ⟨rfl, hb7⟩; have hP7 := hP6.below hb7 hP6.lt; have c7 := C4.out _ hP7; have hb27 := hb26.trans (hb7.mono hb26.size)))
                              go_ret2
                              exact ⟨by rw [E2.out]; rfl, hbw2.trans (hb27.mono hbw2.size)⟩
                          · have HVa1 : Hid (∀ W, Below w2.heap.size w2 W → Calls Try.prog 65 #[.slice K nk ck, E.a.val] W (BoolPost W false)) := fun W hW => by have h := HVa.out W hW; rw [Bool.eq_false_iff.mpr hva] at h; exact h
                            have E2 : Hid (r = (0, 8)) := by
                              rw [if_neg (fun hh => hva hh.1)] at hfv; have h := HD.out; rw [hfv, if_neg (by decide)] at h; exact h.symm
                            clear HD hcf hls hfv HCo HLe
                            go_wp2_with (first | (go_at_call 29; refine (HCo1.out _).mono ?_; rintro en w4 ⟨rfl, hb4⟩; have hP4 := hG1.below hb4 hG1.lt; have hQ4 := hG2.below hb4 hG2.lt; have hE4 := hEc.below hb4 hEc.lt; have x4 := hP4.row 22 rfl; have y4 := hQ4.row 22 rfl; have hb24 := hb2c.trans (hb4.mono hb2c.size)) | (go_at_call 64; refine (HLe1.out _).mono ?_; rintro en w5 ⟨rfl, hb5⟩; have hP5 := hP4.below hb5 hP4.lt; have hE5 := hE4.below hb5 hE4.lt; have c5 := C4.out _ hP5; have x5 := E.row_a hE5; have hb25 := hb24.trans (hb5.mono hb24.size)) | (go_at_call 65; (with_reducible refine (HVa1.out _ hb25).mono ?_); rintro en w6 ⟨rfl, hb6⟩; have hP6 := hP5.below hb6 hP5.lt; have hE6 := hE5.below hb6 hE5.lt; have c6 := C4.out _ hP6; have y6 := E.row_b hE6; have hb26 := hb25.trans (hb6.mono hb25.size)))
                            go_ret2
                            exact ⟨by rw [E2.out]; rfl, hbw2.trans (hb26.mono hbw2.size)⟩
                      · have HLe1 : Hid (∀ W, Calls Try.prog 64 #[va.val, vb.val] W (BoolPost W false)) := fun W => by have h := HLe.out W; rw [Bool.eq_false_iff.mpr hls] at h; exact h
                        have E2 : Hid (r = (0, 9)) := by
                          have hf : faultF keys va sa vb sb before = 9 := by unfold faultF; rw [if_neg (fun hh => hls hh.2)]
                          have h := HD.out; rw [hf, if_neg (by decide)] at h; exact h.symm
                        clear HD hcf hls HCo HLe
                        go_wp2_with (first | (go_at_call 29; refine (HCo1.out _).mono ?_; rintro en w4 ⟨rfl, hb4⟩; have hP4 := hG1.below hb4 hG1.lt; have hQ4 := hG2.below hb4 hG2.lt; have hE4 := hEc.below hb4 hEc.lt; have x4 := hP4.row 22 rfl; have y4 := hQ4.row 22 rfl; have hb24 := hb2c.trans (hb4.mono hb2c.size)) | (go_at_call 64; refine (HLe1.out _).mono ?_; rintro en w5 ⟨rfl, hb5⟩; have hP5 := hP4.below hb5 hP4.lt; have hE5 := hE4.below hb5 hE4.lt; have c5 := C4.out _ hP5; have x5 := E.row_a hE5; have hb25 := hb24.trans (hb5.mono hb24.size)))
                        go_ret2
                        exact ⟨by rw [E2.out]; rfl, hbw2.trans (hb25.mono hbw2.size)⟩
                    · have HCo1 : Hid (∀ W, Calls Try.prog 29 #[va.val, vb.val] W (BoolPost W false)) := fun W => by have h := HCo.out W; rw [decide_eq_false hcf] at h; exact h
                      have E2 : Hid (r = (0, 9)) := by
                        have hf : faultF keys va sa vb sb before = 9 := by unfold faultF; rw [if_neg (fun hh => hcf hh.1)]
                        have h := HD.out; rw [hf, if_neg (by decide)] at h; exact h.symm
                      clear HD hcf HCo HLe
                      go_wp2_with (go_at_call 29; refine (HCo1.out _).mono ?_; rintro en w4 ⟨rfl, hb4⟩; have hP4 := hG1.below hb4 hG1.lt; have hQ4 := hG2.below hb4 hG2.lt; have hE4 := hEc.below hb4 hEc.lt; have x4 := hP4.row 22 rfl; have y4 := hQ4.row 22 rfl; have hb24 := hb2c.trans (hb4.mono hb2c.size))
                      go_ret2
                      exact ⟨by rw [E2.out]; rfl, hbw2.trans (hb24.mono hbw2.size)⟩
                · have hbad : ∃ f, f ≠ 0 ∧ elemF keys (p.drop at_) before = f ∧ f = 11 := by
                    have ka := decVote_err ((p.drop at_).take 23) (by rw [List.length_take, hll]; omega)
                    have kb := decVote_err (((p.drop at_).drop 393).take 23) (by rw [List.length_take, List.length_drop, hll]; omega)
                    unfold elemF
                    by_cases ha : (voteA (p.drop at_)).2 = 0
                    · have hbv : ¬ (voteB (p.drop at_)).2 = 0 := fun hh => h1 ⟨ha, hh⟩
                      exact ⟨_, hbv, by rw [if_neg (by simpa using ha), if_pos hbv], kb.resolve_left hbv⟩
                    · exact ⟨_, ha, by rw [if_pos ha], ka.resolve_left ha⟩
                  obtain ⟨f, hf0, hfe, hf11⟩ := hbad
                  have hdec := fun W (hW : Below w.heap.size w W) => redec_err_any (some ⟨b, o + (1 + 786 * i), none⟩) (c - (1 + 786 * i)) ((p.drop at_).take 786) W ((hrt.below hW).more hW.size) hlt7 hcc (by unfold maxLen; omega) (by rw [voteA_take, voteB_take]; exact h1)
                  have HDec := Lib.hid hdec
                  rw [hfe, if_neg hf0, hf11] at hd
                  have E2 := Lib.hid hd.symm
                  clear hdec hrt hrd hll hlt7 hcc h1 hd HCk hf0 hfe hf11
                  go_wp2_with fail
                  rw [E786.out]
                  refine (HDec.out _ hbw).mono ?_
                  rintro en w2 ⟨rfl, hb2⟩
                  have hbw2 := hbw.trans (hb2.mono hbw.size)
                  clear hb2 hbw HDec
                  go_wp2_with (refine wpList_store_blk rfl 45 (.tmp 10) (.tmp 54) rfl w2.heap.size zeroEc rfl rfl 45 zeroEc (Blk.new w2 _ _) rfl size_ev (fun u hu => one_ze hu) ?_)
                  intro w3 hV3 hg3 hs3
                  have hb23 : Below w2.heap.size w2 w3 := ((Below.refl _ _).alloc (Nat.le_refl _) _).grown hg3 (by simp) (by rintro j ⟨⟩; omega)
                  have hbw3 := hbw2.trans (hb23.mono hbw2.size)
                  clear hg3 hs3 hb23 hV3
                  go_wp2
                  go_ret2
                  exact ⟨by rw [E2.out]; rfl, hbw3⟩
theorem rcheck_any (K A : Option Addr) (ck c : Nat) (keys : List Nm) (p : List UInt8) (w : World) (hK : Rd w w.heap.size K (keys.flatMap nmc)) (hr : Rd w w.heap.size A (p.map B)) (hc : p.length ≤ c) (hm : c ≤ maxLen) :
    Calls Try.prog 23 #[.slice K keys.length ck, .slice A p.length c] w (CheckPost w (checkF keys p)) :=
  rcheck_core K A keys.length ck p.length c keys p _ w rfl rfl hK hr hc hm rfl
end Go.Proofs.Ythmecidpjlaonaa
