/-
  evidence.verifies returns whether a signed vote verifies with the key of its signer; of returns what votes in conflict have in common; copied a copy. Condition: keys and vote lie in memory below the call.
  Arrays of ten pairs in memory: how they begin, a store into a place, a whole load, an element; a map's store at a step. No condition.
  evidence.copied returns a copy of a signed vote, its signature in memory of its own. Condition: the vote lies in memory below the call.
  What evidence.Find's first loop keeps: the first vote of each key in a map, the first pair of each signer in an array. No condition.
  evidence.Verified returns the canonical list of the votes that verify. Condition: keys and list lie in memory below the call, the list has at most a million elements.
  evidence.Find finds the evidence in the canonical list of the votes that verify. Condition: keys and list lie in memory below the call, the list has at most a million elements.
  evidence.Guilty returns the set of the signers with votes in conflict. Condition: keys and list lie in memory below the call, the list has at most a million elements.
-/
import Derived.Test.YthmecidpjlaonaaGreatHSgs
import Derived.Test.YthmecidpjlaonaaGreatSGFind
import Derived.Test.YthmecidpjlaonaaGreatSGPCan
import Derived.Deep.DeepCutAuto
import Derived.Great.Walk
import Derived.Test.YthmecidpjlaonaaGreatSGDefs
namespace Go.Proofs.YthmecidpjlaonaaGreat
open Go.RowKit
attribute [local go_sem ↓] Go.wp_at_zero Go.wp_at_succ loadNm loadVt loadSg loadEv
attribute [local go_sem] runNm runVt runSg runEv pickRow_some rowAt_drew rowAt_drewN
set_option maxRecDepth 100000 in
set_option maxHeartbeats 4000000 in
theorem pverify_in (K : Option Addr) (n ck : Nat) (s : Sg) (w : World) (sn : Nat) (hsn : s.vote.signer = (sn : Int)) (b o : Nat) (hK : K = some ⟨b, o, none⟩) (key : Nm) (kr : Bool) (hk : sn < n) (hkey : ∀ W, Below w.heap.size w W → rowAt W b (o + sn * 8) 8 = some key.cells)
    (hv1 : ∀ W, Below w.heap.size w W → Calls Tryz.prog 20 #[key.val, s.val] W (BoolPost W kr)) : Calls Tryz.prog 42 #[.slice K n ck, s.val] w (BoolPost w kr) := by
  subst hK
  have HS := Lib.hid hsn; clear hsn
  have HK := Lib.hid hkey; clear hkey
  have HV1 := Lib.hid hv1; clear hv1
  have i1 : (0 : Int) ≤ (sn : Int) := by omega
  have i2 : (sn : Int) < (n : Int) := by omega
  have d1 : decide ((0 : Int) ≤ (sn : Int)) = true := by simp
  have d2 : decide (sn < n) = true := by simp; omega
  have hE : Blk (w.alloc (Obj.cells s.cells 34)) w.heap.size 34 s.cells := Blk.new w _ _
  have hbW : Below w.heap.size w (w.alloc (Obj.cells s.cells 34)) := (Below.refl _ _).alloc (Nat.le_refl _) _
  go_enter Tryz.func42, Tryz.ntmps42
  go_upto_region 1 with fail
  generalize (w.alloc (Obj.cells s.cells 34)) = W at *
  have c4 : W.cell? ⟨w.heap.size, 4, none⟩ = some (.int .i64 (sn : Int)) := by rw [← HS.out]; exact (hE.cell 4).trans (s.cell_vote 4 _ rfl)
  go_wp2
  refine wp_region_noPanic ?_
  refine wp_region_held_drew (S := fun w' => rowAt w' b (o + sn * 8) 8 = some key.cells ∧ rowAt w' w.heap.size 0 23 = some s.cells) (by kernel_rfl) (⟨HK.out _ hbW.drew, hE.drew.row 23 (Sg.size_cells _)⟩) (fun hHeld => ?_)
  refine wpAnyH_takeD (some 9) (i := 0) (v := ?vh1_0) rfl rfl (by kernel_rfl) (by kernel_rfl) (by kernel_rfl) (fun _ _ _ h => h) (by rfl) ?hh1_0 (by assumption) ?_
  case hh1_0 => (intro wq hSw; (try dsimp only at hSw); go_simp; (try (with_reducible rfl)))
  go_frame
  refine wpAnyH_takeD (some 10) (i := 1) (v := ?vh1_1) rfl rfl (by kernel_rfl) (by kernel_rfl) (by kernel_rfl) (fun _ _ _ h => h) (by rfl) ?hh1_1 (by assumption) ?_
  case hh1_1 => (intro wq hSw; (try dsimp only at hSw); go_simp; (try (with_reducible rfl)))
  go_frame
  refine wpAnyH_takeD (some 11) (i := 2) (v := ?vh1_2) rfl rfl (by kernel_rfl) (by kernel_rfl) (by kernel_rfl) (fun _ _ _ h => h) (by rfl) ?hh1_2 (by assumption) ?_
  case hh1_2 => (intro wq hSw; (try dsimp only at hSw); go_simp; (try (with_reducible rfl)))
  go_frame
  refine wpAnyH_takeD (some 12) (i := 3) (v := ?vh1_3) rfl rfl (by kernel_rfl) (by kernel_rfl) (by kernel_rfl) (fun _ _ _ h => h) (by rfl) ?hh1_3 (by assumption) ?_
  case hh1_3 => (intro wq hSw; (try dsimp only at hSw); go_simp; (try (with_reducible rfl)))
  go_frame
  refine wpAnyH_takeD (some 13) (i := 4) (v := ?vh1_4) rfl rfl (by kernel_rfl) (by kernel_rfl) (by kernel_rfl) (fun _ _ _ h => h) (by rfl) ?hh1_4 (by assumption) ?_
  case hh1_4 => (intro wq hSw; (try dsimp only at hSw); go_simp; (try (with_reducible rfl)))
  go_frame
  refine wpAnyH_takeD (some 14) (i := 5) (v := ?vh1_5) rfl rfl (by kernel_rfl) (by kernel_rfl) (by kernel_rfl) (fun _ _ _ h => h) (by rfl) ?hh1_5 (by assumption) ?_
  case hh1_5 => (intro wq hSw; (try dsimp only at hSw); go_simp; (try (with_reducible rfl)))
  go_frame
  refine wpAnyH_takeD (some 15) (i := 6) (v := ?vh1_6) rfl rfl (by kernel_rfl) (by kernel_rfl) (by kernel_rfl) (fun _ _ _ h => h) (by rfl) ?hh1_6 (by assumption) ?_
  case hh1_6 => (intro wq hSw; (try dsimp only at hSw); go_simp; (try (with_reducible rfl)))
  go_frame
  refine wpAnyH_takeD (some 16) (i := 7) (v := ?vh1_7) rfl rfl (by kernel_rfl) (by kernel_rfl) (by kernel_rfl) (fun _ _ _ h => h) (by rfl) ?hh1_7 (by assumption) ?_
  case hh1_7 => (intro wq hSw; (try dsimp only at hSw); go_simp; (try (with_reducible rfl)))
  go_frame
  refine wpAnyH_takeD (some 17) (i := 8) (v := ?vh1_8) rfl rfl (by kernel_rfl) (by kernel_rfl) (by kernel_rfl) (fun _ _ _ h => h) (by rfl) ?hh1_8 (by assumption) ?_
  case hh1_8 => (intro wq hSw; (try dsimp only at hSw); go_simp; (try (with_reducible rfl)))
  go_frame
  refine wpAnyH_takeD (some 18) (i := 9) (v := ?vh1_9) rfl rfl (by kernel_rfl) (by kernel_rfl) (by kernel_rfl) (fun _ _ _ h => h) (by rfl) ?hh1_9 (by assumption) ?_
  case hh1_9 => (intro wq hSw; (try dsimp only at hSw); go_simp; (try (with_reducible rfl)))
  go_frame
  refine wpAnyH_takeD (some 19) (i := 10) (v := ?vh1_10) rfl rfl (by kernel_rfl) (by kernel_rfl) (by kernel_rfl) (fun _ _ _ h => h) (by rfl) ?hh1_10 (by assumption) ?_
  case hh1_10 => (intro wq hSw; (try dsimp only at hSw); go_simp; (try (with_reducible rfl)))
  go_frame
  refine wpAnyH_takeD (some 20) (i := 11) (v := ?vh1_11) rfl rfl (by kernel_rfl) (by kernel_rfl) (by kernel_rfl) (fun _ _ _ h => h) (by rfl) ?hh1_11 (by assumption) ?_
  case hh1_11 => (intro wq hSw; (try dsimp only at hSw); go_simp; (try (with_reducible rfl)))
  go_frame
  refine wpAnyH_takeD (some 21) (i := 12) (v := ?vh1_12) rfl rfl (by kernel_rfl) (by kernel_rfl) (by kernel_rfl) (fun _ _ _ h => h) (by rfl) ?hh1_12 (by assumption) ?_
  case hh1_12 => (intro wq hSw; (try dsimp only at hSw); go_simp; (try (with_reducible rfl)))
  go_frame
  refine wpAnyH_takeD (some 22) (i := 13) (v := ?vh1_13) rfl rfl (by kernel_rfl) (by kernel_rfl) (by kernel_rfl) (fun _ _ _ h => h) (by rfl) ?hh1_13 (by assumption) ?_
  case hh1_13 => (intro wq hSw; (try dsimp only at hSw); go_simp; (try (with_reducible rfl)))
  go_frame
  refine wpAnyH_ready (rs := [14]) (by kernel_rfl) (by simp) ?_
  refine AllReadyH.cons rfl (fun K hK => ?_) AllReadyH.nil
  go_simp
  refine (HV1.out _ hbW.drew).mono ?_; rintro en w2 ⟨rfl, hb2⟩; have hbx2 := hbW.drew.trans (hb2.mono hbW.size); have hE2 := hE.drew.below hb2 hE.drew.lt
  go_wp2_with fail
  refine hK.out _ _ (⟨HK.out _ hbx2, hE2.row 23 (Sg.size_cells _)⟩) (fun hHeld => ?_)
  clear hK K
  try go_frame
  refine wpAnyH_takeD (some 24) (i := 15) (v := ?vh1_15) rfl rfl (by kernel_rfl) (by kernel_rfl) (by kernel_rfl) (fun _ _ _ h => h) (by rfl) ?hh1_15 (by assumption) ?_
  case hh1_15 => (intro wq hSw; (try dsimp only at hSw); go_simp; (try (with_reducible rfl)))
  go_frame
  refine wpAnyH_takeD (some 4) (i := 16) (v := ?vh1_16) rfl rfl (by kernel_rfl) (by kernel_rfl) (by kernel_rfl) (fun _ _ _ h => h) (by rfl) ?hh1_16 (by assumption) ?_
  case hh1_16 => (intro wq hSw; (try dsimp only at hSw); go_simp; (try (with_reducible rfl)))
  go_frame
  refine wpAnyH_done (by kernel_rfl) ?_ _
  refine NoPanic.normal ?_
  go_wp2
  go_ret
  exact ⟨rfl, hbx2⟩

set_option maxRecDepth 100000 in
set_option maxHeartbeats 4000000 in
theorem pverify_hi (K : Option Addr) (n ck : Nat) (s : Sg) (w : World) (sn : Nat) (hsn : s.vote.signer = (sn : Int)) (hk : n ≤ sn) : Calls Tryz.prog 42 #[.slice K n ck, s.val] w (BoolPost w false) := by
  have HS := Lib.hid hsn; clear hsn
  have d1 : decide ((0 : Int) ≤ (sn : Int)) = true := by simp
  have d2 : decide (sn < n) = false := by simp; omega
  have hE : Blk (w.alloc (Obj.cells s.cells 34)) w.heap.size 34 s.cells := Blk.new w _ _
  have hbW : Below w.heap.size w (w.alloc (Obj.cells s.cells 34)) := (Below.refl _ _).alloc (Nat.le_refl _) _
  go_enter Tryz.func42, Tryz.ntmps42
  go_upto_region 1 with fail
  generalize (w.alloc (Obj.cells s.cells 34)) = W at *
  have c4 : W.cell? ⟨w.heap.size, 4, none⟩ = some (.int .i64 (sn : Int)) := by rw [← HS.out]; exact (hE.cell 4).trans (s.cell_vote 4 _ rfl)
  go_wp2
  refine wp_region_noPanic ?_
  refine wp_region_held_drew (S := fun _ => True) (by kernel_rfl) (trivial) (fun hHeld => ?_)
  refine wpAnyH_takeD (some 9) (i := 0) (v := ?vh2_0) rfl rfl (by kernel_rfl) (by kernel_rfl) (by kernel_rfl) (fun _ _ _ h => h) (by rfl) ?hh2_0 (by assumption) ?_
  case hh2_0 => (intro wq hSw; (try dsimp only at hSw); go_simp; (try (with_reducible rfl)))
  go_frame
  refine wpAnyH_takeD (some 10) (i := 1) (v := ?vh2_1) rfl rfl (by kernel_rfl) (by kernel_rfl) (by kernel_rfl) (fun _ _ _ h => h) (by rfl) ?hh2_1 (by assumption) ?_
  case hh2_1 => (intro wq hSw; (try dsimp only at hSw); go_simp; (try (with_reducible rfl)))
  go_frame
  refine wpAnyH_takeD (some 11) (i := 2) (v := ?vh2_2) rfl rfl (by kernel_rfl) (by kernel_rfl) (by kernel_rfl) (fun _ _ _ h => h) (by rfl) ?hh2_2 (by assumption) ?_
  case hh2_2 => (intro wq hSw; (try dsimp only at hSw); go_simp; (try (with_reducible rfl)))
  go_frame
  refine wpAnyH_takeD (some 12) (i := 3) (v := ?vh2_3) rfl rfl (by kernel_rfl) (by kernel_rfl) (by kernel_rfl) (fun _ _ _ h => h) (by rfl) ?hh2_3 (by assumption) ?_
  case hh2_3 => (intro wq hSw; (try dsimp only at hSw); go_simp; (try (with_reducible rfl)))
  go_frame
  refine wpAnyH_takeD (some 13) (i := 4) (v := ?vh2_4) rfl rfl (by kernel_rfl) (by kernel_rfl) (by kernel_rfl) (fun _ _ _ h => h) (by rfl) ?hh2_4 (by assumption) ?_
  case hh2_4 => (intro wq hSw; (try dsimp only at hSw); go_simp; (try (with_reducible rfl)))
  go_frame
  refine wpAnyH_takeD (some 14) (i := 5) (v := ?vh2_5) rfl rfl (by kernel_rfl) (by kernel_rfl) (by kernel_rfl) (fun _ _ _ h => h) (by rfl) ?hh2_5 (by assumption) ?_
  case hh2_5 => (intro wq hSw; (try dsimp only at hSw); go_simp; (try (with_reducible rfl)))
  go_frame
  refine wpAnyH_takeD (some 15) (i := 6) (v := ?vh2_6) rfl rfl (by kernel_rfl) (by kernel_rfl) (by kernel_rfl) (fun _ _ _ h => h) (by rfl) ?hh2_6 (by assumption) ?_
  case hh2_6 => (intro wq hSw; (try dsimp only at hSw); go_simp; (try (with_reducible rfl)))
  go_frame
  refine wpAnyH_takeD (some 16) (i := 7) (v := ?vh2_7) rfl rfl (by kernel_rfl) (by kernel_rfl) (by kernel_rfl) (fun _ _ _ h => h) (by rfl) ?hh2_7 (by assumption) ?_
  case hh2_7 => (intro wq hSw; (try dsimp only at hSw); go_simp; (try (with_reducible rfl)))
  go_frame
  refine wpAnyH_takeD (some 17) (i := 8) (v := ?vh2_8) rfl rfl (by kernel_rfl) (by kernel_rfl) (by kernel_rfl) (fun _ _ _ h => h) (by rfl) ?hh2_8 (by assumption) ?_
  case hh2_8 => (intro wq hSw; (try dsimp only at hSw); go_simp; (try (with_reducible rfl)))
  go_frame
  refine wpAnyH_skipD (some 18) (i := 9) rfl rfl (by kernel_rfl) (by kernel_rfl) (by kernel_rfl) (fun _ _ _ h => h) (by rfl) (by assumption) ?_
  go_frame
  refine wpAnyH_skipD (some 19) (i := 10) rfl rfl (by kernel_rfl) (by kernel_rfl) (by kernel_rfl) (fun _ _ _ h => h) (by rfl) (by assumption) ?_
  go_frame
  refine wpAnyH_skipD (some 20) (i := 11) rfl rfl (by kernel_rfl) (by kernel_rfl) (by kernel_rfl) (fun _ _ _ h => h) (by rfl) (by assumption) ?_
  go_frame
  refine wpAnyH_skipD (some 21) (i := 12) rfl rfl (by kernel_rfl) (by kernel_rfl) (by kernel_rfl) (fun _ _ _ h => h) (by rfl) (by assumption) ?_
  go_frame
  refine wpAnyH_skipD (some 22) (i := 13) rfl rfl (by kernel_rfl) (by kernel_rfl) (by kernel_rfl) (fun _ _ _ h => h) (by rfl) (by assumption) ?_
  go_frame
  refine wpAnyH_skipD (some 23) (i := 14) rfl rfl (by kernel_rfl) (by kernel_rfl) (by kernel_rfl) (fun _ _ _ h => h) (by rfl) (by assumption) ?_
  go_frame
  refine wpAnyH_takeD (some 24) (i := 15) (v := ?vh2_15) rfl rfl (by kernel_rfl) (by kernel_rfl) (by kernel_rfl) (fun _ _ _ h => h) (by rfl) ?hh2_15 (by assumption) ?_
  case hh2_15 => (intro wq hSw; (try dsimp only at hSw); go_simp; (try (with_reducible rfl)))
  go_frame
  refine wpAnyH_takeD (some 4) (i := 16) (v := ?vh2_16) rfl rfl (by kernel_rfl) (by kernel_rfl) (by kernel_rfl) (fun _ _ _ h => h) (by rfl) ?hh2_16 (by assumption) ?_
  case hh2_16 => (intro wq hSw; (try dsimp only at hSw); go_simp; (try (with_reducible rfl)))
  go_frame
  refine wpAnyH_done (by kernel_rfl) ?_ _
  refine NoPanic.normal ?_
  go_wp2
  go_ret
  exact ⟨rfl, hbW.drew⟩

set_option maxRecDepth 100000 in
set_option maxHeartbeats 4000000 in
theorem pverify_lo (K : Option Addr) (n ck : Nat) (s : Sg) (w : World) (z : Int) (hsn : s.vote.signer = z) (hk : z < 0) : Calls Tryz.prog 42 #[.slice K n ck, s.val] w (BoolPost w false) := by
  have HS := Lib.hid hsn; clear hsn
  have d1 : decide ((0 : Int) ≤ z) = false := by simp; omega
  have hE : Blk (w.alloc (Obj.cells s.cells 34)) w.heap.size 34 s.cells := Blk.new w _ _
  have hbW : Below w.heap.size w (w.alloc (Obj.cells s.cells 34)) := (Below.refl _ _).alloc (Nat.le_refl _) _
  go_enter Tryz.func42, Tryz.ntmps42
  go_upto_region 1 with fail
  generalize (w.alloc (Obj.cells s.cells 34)) = W at *
  have c4 : W.cell? ⟨w.heap.size, 4, none⟩ = some (.int .i64 z) := by rw [← HS.out]; exact (hE.cell 4).trans (s.cell_vote 4 _ rfl)
  go_wp2
  refine wp_region_noPanic ?_
  refine wp_region_held_drew (S := fun _ => True) (by kernel_rfl) (trivial) (fun hHeld => ?_)
  refine wpAnyH_takeD (some 9) (i := 0) (v := ?vh3_0) rfl rfl (by kernel_rfl) (by kernel_rfl) (by kernel_rfl) (fun _ _ _ h => h) (by rfl) ?hh3_0 (by assumption) ?_
  case hh3_0 => (intro wq hSw; (try dsimp only at hSw); go_simp; (try (with_reducible rfl)))
  go_frame
  refine wpAnyH_takeD (some 10) (i := 1) (v := ?vh3_1) rfl rfl (by kernel_rfl) (by kernel_rfl) (by kernel_rfl) (fun _ _ _ h => h) (by rfl) ?hh3_1 (by assumption) ?_
  case hh3_1 => (intro wq hSw; (try dsimp only at hSw); go_simp; (try (with_reducible rfl)))
  go_frame
  refine wpAnyH_takeD (some 11) (i := 2) (v := ?vh3_2) rfl rfl (by kernel_rfl) (by kernel_rfl) (by kernel_rfl) (fun _ _ _ h => h) (by rfl) ?hh3_2 (by assumption) ?_
  case hh3_2 => (intro wq hSw; (try dsimp only at hSw); go_simp; (try (with_reducible rfl)))
  go_frame
  refine wpAnyH_skipD (some 12) (i := 3) rfl rfl (by kernel_rfl) (by kernel_rfl) (by kernel_rfl) (fun _ _ _ h => h) (by rfl) (by assumption) ?_
  go_frame
  refine wpAnyH_skipD (some 13) (i := 4) rfl rfl (by kernel_rfl) (by kernel_rfl) (by kernel_rfl) (fun _ _ _ h => h) (by rfl) (by assumption) ?_
  go_frame
  refine wpAnyH_skipD (some 14) (i := 5) rfl rfl (by kernel_rfl) (by kernel_rfl) (by kernel_rfl) (fun _ _ _ h => h) (by rfl) (by assumption) ?_
  go_frame
  refine wpAnyH_skipD (some 15) (i := 6) rfl rfl (by kernel_rfl) (by kernel_rfl) (by kernel_rfl) (fun _ _ _ h => h) (by rfl) (by assumption) ?_
  go_frame
  refine wpAnyH_takeD (some 16) (i := 7) (v := ?vh3_7) rfl rfl (by kernel_rfl) (by kernel_rfl) (by kernel_rfl) (fun _ _ _ h => h) (by rfl) ?hh3_7 (by assumption) ?_
  case hh3_7 => (intro wq hSw; (try dsimp only at hSw); go_simp; (try (with_reducible rfl)))
  go_frame
  refine wpAnyH_takeD (some 17) (i := 8) (v := ?vh3_8) rfl rfl (by kernel_rfl) (by kernel_rfl) (by kernel_rfl) (fun _ _ _ h => h) (by rfl) ?hh3_8 (by assumption) ?_
  case hh3_8 => (intro wq hSw; (try dsimp only at hSw); go_simp; (try (with_reducible rfl)))
  go_frame
  refine wpAnyH_skipD (some 18) (i := 9) rfl rfl (by kernel_rfl) (by kernel_rfl) (by kernel_rfl) (fun _ _ _ h => h) (by rfl) (by assumption) ?_
  go_frame
  refine wpAnyH_skipD (some 19) (i := 10) rfl rfl (by kernel_rfl) (by kernel_rfl) (by kernel_rfl) (fun _ _ _ h => h) (by rfl) (by assumption) ?_
  go_frame
  refine wpAnyH_skipD (some 20) (i := 11) rfl rfl (by kernel_rfl) (by kernel_rfl) (by kernel_rfl) (fun _ _ _ h => h) (by rfl) (by assumption) ?_
  go_frame
  refine wpAnyH_skipD (some 21) (i := 12) rfl rfl (by kernel_rfl) (by kernel_rfl) (by kernel_rfl) (fun _ _ _ h => h) (by rfl) (by assumption) ?_
  go_frame
  refine wpAnyH_skipD (some 22) (i := 13) rfl rfl (by kernel_rfl) (by kernel_rfl) (by kernel_rfl) (fun _ _ _ h => h) (by rfl) (by assumption) ?_
  go_frame
  refine wpAnyH_skipD (some 23) (i := 14) rfl rfl (by kernel_rfl) (by kernel_rfl) (by kernel_rfl) (fun _ _ _ h => h) (by rfl) (by assumption) ?_
  go_frame
  refine wpAnyH_takeD (some 24) (i := 15) (v := ?vh3_15) rfl rfl (by kernel_rfl) (by kernel_rfl) (by kernel_rfl) (fun _ _ _ h => h) (by rfl) ?hh3_15 (by assumption) ?_
  case hh3_15 => (intro wq hSw; (try dsimp only at hSw); go_simp; (try (with_reducible rfl)))
  go_frame
  refine wpAnyH_takeD (some 4) (i := 16) (v := ?vh3_16) rfl rfl (by kernel_rfl) (by kernel_rfl) (by kernel_rfl) (fun _ _ _ h => h) (by rfl) ?hh3_16 (by assumption) ?_
  case hh3_16 => (intro wq hSw; (try dsimp only at hSw); go_simp; (try (with_reducible rfl)))
  go_frame
  refine wpAnyH_done (by kernel_rfl) ?_ _
  refine NoPanic.normal ?_
  go_wp2
  go_ret
  exact ⟨rfl, hbW.drew⟩

theorem pverify_any (K : Option Addr) (ck : Nat) (keys : List Nm) (s : Sg) (w : World) (hK : Rd w w.heap.size K (keys.flatMap nmc)) (hE : SgOk w w.heap.size s) (hca : SgCap s) :
    Calls Tryz.prog 42 #[.slice K keys.length ck, s.val] w (BoolPost w (verK keys s.vote s.sig)) := by
  unfold verK
  by_cases h0 : 0 ≤ s.vote.signer
  · obtain ⟨sn, hsn⟩ := Int.eq_ofNat_of_zero_le h0
    by_cases h1 : s.vote.signer < (keys.length : Int)
    · rw [decide_eq_true h0, decide_eq_true h1, Bool.true_and, Bool.true_and, show s.vote.signer.toNat = sn from by rw [hsn]; rfl]
      have hlt : sn < keys.length := by omega
      have hx := getD_some Nm.zero hlt
      have hne : keys.flatMap nmc ≠ [] := by
        intro e0
        have := flat_length nmc 8 keys (nmc_len keys)
        rw [e0] at this
        simp at this; omega
      obtain ⟨b, o, rfl, _, _⟩ := hK.cells hne
      exact pverify_in _ keys.length ck s w sn hsn b o rfl (keys.getD sn Nm.zero) _ hlt (fun W hW => (hK.below hW).row hx) (fun W hW => sver_any _ s W ((hE.below hW).more hW.size) hca)
    · rw [decide_eq_true h0, decide_eq_false h1]
      exact pverify_hi K keys.length ck s w sn hsn (by omega)
  · rw [decide_eq_false h0]
    exact pverify_lo K keys.length ck s w _ rfl (by omega)

def KyPost (w : World) (k : Ky) (e : Ending) (w' : World) : Prop := e = .returned (encK k) ∧ Below w.heap.size w w'
abbrev zeroK : Array Value := #[.int .i64 0, .int .i64 0, .int .i64 0, .int .i64 0, .int .u8 0, .int .u8 0, .int .u8 0, .int .u8 0, .int .u8 0, .int .u8 0, .int .u8 0, .int .u8 0]
theorem size_ky : (Tryz.prog.info? 81).map (·.size) = some 12 := by kernel_rfl
set_option maxRecDepth 100000 in
set_option maxHeartbeats 1000000 in
theorem kyof_any (v : Vt) (w : World) : Calls Tryz.prog 45 #[v.val] w (KyPost w (kyOf v)) := by
  obtain ⟨w1, hw1⟩ : ∃ w1, w1 = (w.alloc (.cells v.cells 31)).alloc (.cells zeroK 81) := ⟨_, rfl⟩
  have hbw : Below w.heap.size w w1 := by rw [hw1]; exact ((Below.refl _ _).alloc (Nat.le_refl _) _).alloc (by simp) _
  have HBv : Hid (Blk w1 w.heap.size 31 v.cells) := by unfold Hid; rw [hw1]; exact (Blk.new w _ _).alloc _
  have HBr : Hid (Blk w1 (w.heap.size + 1) 81 zeroK) := by
    unfold Hid; rw [hw1]
    have := Blk.new (w.alloc (.cells v.cells 31)) 81 zeroK
    simpa using this
  obtain ⟨k, hk⟩ : ∃ k, k = kyOf v := ⟨_, rfl⟩
  rw [← hk]
  have c0 : w1.cell? ⟨w.heap.size, 0, none⟩ = some (I k.kind) := by rw [hk]; exact HBv.out.cell 0
  have c1 : w1.cell? ⟨w.heap.size, 1, none⟩ = some (I k.slot) := by rw [hk]; exact HBv.out.cell 1
  have c2 : w1.cell? ⟨w.heap.size, 2, none⟩ = some (I k.round) := by rw [hk]; exact HBv.out.cell 2
  have c4 : w1.cell? ⟨w.heap.size, 4, none⟩ = some (I k.signer) := by rw [hk]; exact HBv.out.cell 4
  have x6 : rowAt w1 w.heap.size 6 8 = some k.parent.cells := by rw [hk]; exact v.row_parent HBv.out
  clear hk
  go_enter Tryz.func45, Tryz.ntmps45
  go_upto_region 1 with fail
  rw [← hw1]
  clear hw1
  go_wp2_with (refine wpList_store_blk rfl 81 (.tmp 2) (.tmp 13) rfl (w.heap.size + 1) k.cells rfl rfl 81 zeroK HBr.out rfl size_ky (fun u hu => by simp at hu; rcases hu with rfl | rfl | rfl | rfl | rfl | rfl | rfl | rfl | rfl | rfl | rfl | rfl <;> rfl) ?_; intro w5 hR5 hg5 hsz5)
  exact bodyPost_ret (results_cell_row (g := w.heap.size + 1) (cs := k.cells) rfl _ _ _ _ _ rfl hR5 Tryz.underlying81 rfl size_ky) rfl ⟨rfl, hbw.grown hg5 hbw.size (by rintro j ⟨⟩; omega)⟩
end Go.Proofs.YthmecidpjlaonaaGreat
namespace Go.Proofs.YthmecidpjlaonaaGreat
open Go.RowKit
attribute [local go_sem ↓] Go.wp_at_zero Go.wp_at_succ loadNm loadVt loadSg loadEv
attribute [local go_sem] runNm runVt runSg runEv pickRow_some rowAt_drew rowAt_drewN
def zeroEv : Ev := ⟨zeroSg, zeroSg⟩
/-- Ten empty pairs. -/
def zeroFound : Array Value := ((List.replicate 10 zeroEv).flatMap evc).toArray
noncomputable def myAlloc (t : TypeId) : Sem Value := Instr.alloc t true (.tuple #[])
theorem allocF : Instr.alloc 78 true (.tuple #[]) = myAlloc 78 := rfl
theorem infoF : (Tryz.prog.info? 78).map (·.zero) = some (some (.agg zeroFound)) := by kernel_rfl
theorem sizeF : (Tryz.prog.info? 78).map (·.size) = some 460 := by kernel_rfl
theorem run_alloc_any {P : Program} (t : TypeId) (Z : Array Value) (h : (P.info? t).map (·.zero) = some (some (.agg Z))) (w : World) : (Instr.alloc t true (.tuple #[])).run P w = .ok (.pointer (some ⟨w.heap.size, 0, none⟩)) (w.alloc (.cells Z t)) := by
  cases hi : P.info? t with
  | none => rw [hi] at h; cases h
  | some i =>
    rw [hi] at h
    injection h with h
    simp [Instr.alloc, zeroValue, typeInfo, hi, h, newVar, newRow, Value.cells]
theorem runF (w : World) : (myAlloc 78).run Tryz.prog w = .ok (.pointer (some ⟨w.heap.size, 0, none⟩)) (w.alloc (.cells zeroFound 78)) := run_alloc_any _ _ infoF w
theorem loadF (p : Value) : Instr.loadAt 78 p = myLoad 78 p := rfl
theorem runLF (b o : Nat) (w : World) : (myLoad 78 (.pointer (some ⟨b, o, none⟩))).run Tryz.prog w = pickRow 78 b o w (rowAt w b o 460) := run_myLoad _ 460 b o w _ Tryz.underlying78 rfl sizeF
theorem evc_length (l : List Ev) : (l.flatMap evc).length = l.length * 46 := flat_length evc 46 l (evc_len l)
/-- Pair i of a block of pairs. -/
theorem Blk.evRow {w : World} {g t i : Nat} {l : List Ev} {e : Ev} (h : Blk w g t (l.flatMap evc).toArray) (hi : l[i]? = some e) : rowAt w g (i * 46) 46 = some e.cells := by
  refine rowAt_of (fun j u hu => ?_) e.size_cells
  have hj : j < 46 := by
    have := (List.getElem?_eq_some_iff.1 hu).1
    rwa [Array.length_toList, e.size_cells] at this
  rw [h.cell, List.getElem?_toArray, flat_get evc 46 l (evc_len l) i j e hi hj, ← hu]
theorem Blk.evA {w : World} {g t i : Nat} {l : List Ev} {e : Ev} (h : Blk w g t (l.flatMap evc).toArray) (hi : l[i]? = some e) : rowAt w g (i * 46) 22 = some e.a.vote.cells := by
  have h1 := (rowAt_back (h.evRow hi)).2
  refine rowAt_of (fun j u hu => h1 j u ?_) rfl
  have := e.cell_a j u (e.a.cell_vote j u (by simpa using hu))
  simpa using this
/-- A pair stored into its place. -/
theorem wpList_store_ev {ops : Array Oper} {rest : List Oper} {o : Oper} {a : Act} {w : World} {Q : Exit → Act → World → Prop} (hgd : o.guard = none) (x y : Operand) (ho : o.op = .store 51 x y) (g i : Nat) (e : Ev) (hx : a.eval x = .pointer (some ⟨g, i * 46, none⟩)) (hy : a.eval y = e.val)
    (t : TypeId) (l : List Ev) (hB : Blk w g t (l.flatMap evc).toArray) (hi : i < l.length)
    (h : ∀ w', Blk w' g t ((l.set i e).flatMap evc).toArray → w.grownBy w' (some g) → wpList Tryz.prog ops Q rest (a.put o.dst undef) w') : wpList Tryz.prog ops Q (o :: rest) a w := by
  have hlen := evc_length l
  have hb : i * 46 + 46 ≤ l.length * 46 := by omega
  have hth : w.there g (i * 46) 46 := fun j hj => ⟨by
    rw [hB.cell, Array.getElem?_eq_getElem (by simp only [List.size_toArray]; omega)]; rfl, hB.frozen _⟩
  refine wpList_store_mid hgd 51 x y ho g (i * 46) e.cells hx hy (by rw [e.size_cells]; exact hth) (by rw [e.size_cells]; exact size_ev) (Array.all_eq_true_iff_forall_mem.2 fun v hv => one_ev e (by simpa using hv)) ?_
  obtain ⟨b1, k1⟩ := putCells_blk g t e.cells.toList (i * 46) w (l.flatMap evc) hB (by rw [Array.length_toList, e.size_cells, hlen]; exact hb)
  rw [Array.length_toList, e.size_cells, ← flat_set evc 46 l (evc_len l) i e hi] at b1
  exact h _ b1 k1
/-- 'm[k] = v', at a step of a region that draws its order. -/
theorem wp_mapK {κ : Type} [DecidableEq κ] {P : Program} {kt : TypeId} {enc : κ → Value} {o : Oper} {a : Act} {w : World} {K : Act → World → Prop} {Q : Exit → Act → World → Prop} (t e : TypeId) (mo ko vo : Operand) (ho : o.op = .mapUpdate t mo ko vo) (hd : o.dst = none)
    (m : Nat) (k : κ) (v : Value) (l : List (κ × Value)) (hm : a.eval mo = .map (some m)) (hk : a.eval ko = enc k) (hv : a.eval vo = v) (h : MapIs enc w m l) (hK : KeyOk P kt enc) (ht : P.underlying t = some (.map kt e))
    (next : ∀ w', MapIs enc w' m (aput k v l) → w.grownBy w' (some m) → w'.heap.size = w.heap.size → K a w') : o.wp P a w K Q := by
  obtain ⟨w', hr, h1, h2, h3⟩ := h.store hK ht k v
  unfold Oper.wp execOp
  rw [ho]
  simp only [hm, hk, hv, Sem.run_bind, hr, Result.andThen_ok, Sem.run_pure]
  rw [Oper.upon_skip, hd]
  exact next w' h1 h2 h3
end Go.Proofs.YthmecidpjlaonaaGreat
namespace Go.Proofs.YthmecidpjlaonaaGreat
open Go.RowKit
attribute [local go_sem ↓] Go.wp_at_zero Go.wp_at_succ loadNm loadVt loadSg loadEv
attribute [local go_sem] runNm runVt runSg runEv pickRow_some rowAt_drew rowAt_drewN
def CopyPost (w : World) (s : Sg) (e : Ending) (w' : World) : Prop := ∃ A c, e = .returned (Sg.mk s.vote s.sig A c).val ∧ SgOwn w' w.heap.size (Sg.mk s.vote s.sig A c) ∧ Below w.heap.size w w'
set_option maxRecDepth 100000 in
set_option maxHeartbeats 2000000 in
theorem copied_any (s : Sg) (w : World) (hs : SgOk w w.heap.size s) : Calls Tryz.prog 47 #[s.val] w (CopyPost w s) := by
  obtain ⟨w1, hw1⟩ : ∃ w1, w1 = (w.alloc (.cells s.cells 34)).alloc (.cells zeroSc 34) := ⟨_, rfl⟩
  have hbw : Below w.heap.size w w1 := by rw [hw1]; exact ((Below.refl _ _).alloc (Nat.le_refl _) _).alloc (by simp) _
  have hsz1 : w1.heap.size = w.heap.size + 2 := by rw [hw1]; simp
  have HBs : Hid (Blk w1 w.heap.size 34 s.cells) := by unfold Hid; rw [hw1]; exact (Blk.new w _ _).alloc _
  have HBr : Hid (Blk w1 (w.heap.size + 1) 34 zeroSc) := by
    unfold Hid; rw [hw1]
    have := Blk.new (w.alloc (.cells s.cells 34)) 34 zeroSc
    simpa using this
  have HSk := Lib.hid hs
  have hsl : s.sig.length ≤ 140737488351232 := hs.2.2
  clear hs
  go_enter Tryz.func47, Tryz.ntmps47
  go_upto_region 1 with fail
  rw [← hw1]
  clear hw1
  have HRows : Hid (∀ V, Below w1.heap.size w1 V → rowAt V w.heap.size 0 22 = some s.vote.cells ∧ V.cell? ⟨w.heap.size, 22, none⟩ = some (.slice s.A s.sig.length s.cap)) := fun V hV =>
    ⟨s.row_vote (HBs.out.below hV HBs.out.lt), ((HBs.out.below hV HBs.out.lt).cell 22).trans s.cell_sig⟩
  have hbx : Below w1.heap.size w1 w1 := Below.refl _ _
  refine wp_region_noPanic ?_
  refine wp_region_held_drew (S := fun w' => rowAt w' w.heap.size 0 22 = some s.vote.cells ∧ w'.cell? ⟨w.heap.size, 22, none⟩ = some (.slice s.A s.sig.length s.cap)) (by kernel_rfl) (HRows.out _ hbx.drew) (fun hHeld => ?_)
  refine wpAnyH_takeD (some 3) (i := 0) (v := ?vh1_0) rfl rfl (by kernel_rfl) (by kernel_rfl) (by kernel_rfl) (fun _ _ _ h => h) (by rfl) ?hh1_0 (by assumption) ?_
  case hh1_0 => (intro wq hSw; (try dsimp only at hSw); go_simp; (try (with_reducible rfl)))
  go_frame
  refine wpAnyH_takeD (some 4) (i := 1) (v := ?vh1_1) rfl rfl (by kernel_rfl) (by kernel_rfl) (by kernel_rfl) (fun _ _ _ h => h) (by rfl) ?hh1_1 (by assumption) ?_
  case hh1_1 => (intro wq hSw; (try dsimp only at hSw); go_simp; (try (with_reducible rfl)))
  go_frame
  refine wpAnyH_takeD (some 5) (i := 2) (v := ?vh1_2) rfl rfl (by kernel_rfl) (by kernel_rfl) (by kernel_rfl) (fun _ _ _ h => h) (by rfl) ?hh1_2 (by assumption) ?_
  case hh1_2 => (intro wq hSw; (try dsimp only at hSw); go_simp; (try (with_reducible rfl)))
  go_frame
  refine wpAnyH_takeD (some 6) (i := 3) (v := ?vh1_3) rfl rfl (by kernel_rfl) (by kernel_rfl) (by kernel_rfl) (fun _ _ _ h => h) (by rfl) ?hh1_3 (by assumption) ?_
  case hh1_3 => (intro wq hSw; (try dsimp only at hSw); go_simp; (try (with_reducible rfl)))
  go_frame
  refine wpAnyH_ready (rs := [4]) (by kernel_rfl) (by simp) ?_
  refine AllReadyH.cons rfl (fun K hK => ?_) AllReadyH.nil
  rw [if_pos (by rfl)]
  refine wp_appD (some 7) (by rfl) (.const (.slice none 0 0)) (.tmp 6) _ (by rfl) w.heap.size 5 (.int .u8 0) 1 1 Tryz.underlying32 info_byte rfl (by decide) (.slice none 0 0) 0 [] (by rfl) ⟨rfl, .inl ⟨rfl, rfl⟩⟩ w1.heap.size s.A s.sig.length s.cap (s.sig.map B) (by rfl) (by simp) (((HSk.out.2.1.below hbw).more hbw.size).below hbx.drew) (fun u hu => bytes_one hu) (by omega) (by unfold maxLen; omega) hbw.size ?_; intro v3 w3 hown3 hg3 hat3; have hbx3 : Below w1.heap.size w1 w3 := hbx.drew.grown hg3 (Nat.le_refl _) (by rintro k hk; simp [Value.ownBlock] at hk); rw [Nat.zero_add, List.nil_append] at hown3; obtain ⟨A3, c3, hv3⟩ := own_form hown3; subst hv3; have hnew : SgOwn w3 w.heap.size (Sg.mk s.vote s.sig A3 c3) := ⟨HSk.out.1, hown3, hsl⟩; have HNew := Lib.hid hnew; clear hown3 hnew hg3 hat3
  refine hK.out _ _ (HRows.out _ hbx3) (fun hHeld => ?_)
  clear hK K
  try go_frame
  refine wpAnyH_takeD (some 8) (i := 5) (v := (Sg.mk s.vote s.sig A3 c3).val) rfl rfl (by kernel_rfl) (by kernel_rfl) (by kernel_rfl) (fun _ _ _ h => h) (by rfl) (fun wq _ => run_buildSg s.vote s.sig A3 c3 (.tmp 4) (.tmp 7) rfl rfl rfl wq) (by assumption) ?_
  go_frame
  refine wpAnyH_ready (rs := [6]) (by kernel_rfl) (by simp) ?_
  refine AllReadyH.cons rfl (fun K hK => ?_) AllReadyH.nil
  rw [if_pos (by rfl)]
  refine wp_store_blk 34 (.tmp 2) (.tmp 8) (by rfl) (w.heap.size + 1) (Sg.mk s.vote s.sig A3 c3).cells (by rfl) (by rfl) 34 zeroSc (HBr.out.below hbx3 HBr.out.lt) (by rw [Sg.size_cells]; rfl) (by rw [Sg.size_cells]; kernel_rfl) (fun u hu => Sg.one _ u hu) (by rfl) ?_; intro w4 hR4 hg4 hsz4; have HR4 := Lib.hid hR4; have hnew4 : SgOwn w4 w.heap.size (Sg.mk s.vote s.sig A3 c3) := HNew.out.blk (HBr.out.below hbx3 HBr.out.lt) hg4; have HNew4 := Lib.hid hnew4; have HRows4 : Hid (rowAt w4 w.heap.size 0 22 = some s.vote.cells ∧ w4.cell? ⟨w.heap.size, 22, none⟩ = some (.slice s.A s.sig.length s.cap)) := ⟨s.row_vote ((HBs.out.below hbx3 HBs.out.lt).kept hg4 (by simp)), (((HBs.out.below hbx3 HBs.out.lt).kept hg4 (by simp)).cell 22).trans s.cell_sig⟩; clear hnew4
  refine hK.out _ _ (HRows4.out) (fun hHeld => ?_)
  clear hK K
  try go_frame
  refine wpAnyH_done (by kernel_rfl) ?_ _
  refine NoPanic.normal ?_
  have hbw4 : Below w.heap.size w w4 := (hbw.trans (hbx3.mono hbw.size)).grown hg4 (Nat.le_trans hbw.size hbx3.size) (by rintro j ⟨⟩; omega)
  go_wp2_with fail
  exact bodyPost_ret (results_cell_row (g := w.heap.size + 1) (cs := (Sg.mk s.vote s.sig A3 c3).cells) rfl _ _ _ _ _ rfl HR4.out Tryz.underlying34 rfl (by rw [Sg.size_cells]; kernel_rfl)) rfl ⟨A3, c3, rfl, HNew4.out, hbw4⟩
end Go.Proofs.YthmecidpjlaonaaGreat
namespace Go.Proofs.YthmecidpjlaonaaGreat
open Go.RowKit
attribute [local go_sem ↓] Go.wp_at_zero Go.wp_at_succ loadNm loadVt loadSg loadEv
attribute [local go_sem] runNm runVt runSg runEv pickRow_some rowAt_drew rowAt_drewN
structure FData (L : List Sg) (k : Nat) (M : List (Ky × Value)) (E : List Ev) (hb : Array Value) : Prop where
  map : ∀ κ, alook κ M = (firstK κ (L.take k)).map fun s => s.val
  len : E.length = 10
  evs : ∀ i e, i < 10 → firstC i (L.take k) = some e → E[i]? = some e
  hlen : hb.size = 10
  has : ∀ i, i < 10 → hb[i]? = some (.bool (firstC i (L.take k)).isSome)
theorem FData.zero (L : List Sg) : FData L 0 [] (List.replicate 10 zeroEv) #[.bool false, .bool false, .bool false, .bool false, .bool false, .bool false, .bool false, .bool false, .bool false, .bool false] where
  map κ := rfl
  len := by simp
  evs i e _ h := by rw [List.take_zero] at h; cases h
  hlen := rfl
  has i hi := by
    rw [List.take_zero]
    rcases i with _ | _ | _ | _ | _ | _ | _ | _ | _ | _ | i
    all_goals first | rfl | omega
section
variable {L : List Sg} {k i : Nat} {M : List (Ky × Value)} {E : List Ev} {hb : Array Value} {s a : Sg} {e : Ev}
theorem take_next (hs : L[k]? = some s) : L.take (k + 1) = L.take k ++ [s] := by rw [List.take_add_one, hs]; rfl
theorem map_same (hs : L[k]? = some s) (ha : firstK (kyOf s.vote) (L.take k) = some a) (κ : Ky) : firstK κ (L.take (k + 1)) = firstK κ (L.take k) := by
  rw [take_next hs, firstK_append]
  by_cases h : kyOf s.vote = κ
  · rw [← h, ha]; rfl
  · rw [if_neg h]; simp
theorem FData.new (h : FData L k M E hb) (hs : L[k]? = some s) (hn : firstK (kyOf s.vote) (L.take k) = none) : FData L (k + 1) (aput (kyOf s.vote) s.val M) E hb where
  map κ := by
    rw [alook_aput, take_next hs, firstK_append]
    by_cases e : κ = kyOf s.vote
    · rw [if_pos e, e, hn, if_pos rfl]; rfl
    · rw [if_neg e, if_neg (Ne.symm e), h.map]; simp
  len := h.len
  evs i e hi he := by rw [take_next hs, find_new hn] at he; exact h.evs i e hi he
  hlen := h.hlen
  has i hi := by rw [take_next hs, find_new hn]; exact h.has i hi
theorem FData.later (h : FData L k M E hb) (hs : L[k]? = some s) (ha : firstK (kyOf s.vote) (L.take k) = some a) (hi : s.vote.signer = (i : Int)) (hc : firstC i (L.take k) = some e) : FData L (k + 1) M E hb := by
  have hf : ∀ j, firstC j (L.take (k + 1)) = firstC j (L.take k) := fun j => by
    rw [take_next hs]
    by_cases hj : j = i
    · rw [hj, find_kept hc, hc]
    · exact find_other (by rw [hi]; omega)
  exact ⟨fun κ => by rw [map_same hs ha]; exact h.map κ, h.len, fun j e hj he => h.evs j e hj (by rwa [hf] at he), h.hlen, fun j hj => by rw [hf]; exact h.has j hj⟩
theorem strict_take (hst : StrictL L) (hs : L[k]? = some s) : StrictL (L.take k ++ [s]) := by
  rw [← take_next hs]; exact List.Pairwise.sublist (List.take_sublist _ _) hst
theorem FData.first (h : FData L k M E hb) (hs : L[k]? = some s) (hst : StrictL L) (hv : ∀ x ∈ L, ValidP x.vote) (ha : firstK (kyOf s.vote) (L.take k) = some a) (hi : s.vote.signer = (i : Int)) (hi10 : i < 10) (hc : firstC i (L.take k) = none) :
    FData L (k + 1) M (E.set i ⟨a, s⟩) (hb.setIfInBounds i (.bool true)) := by
  have h1 : firstC i (L.take (k + 1)) = some ⟨a, s⟩ := by
    rw [take_next hs]
    exact find_first (hv s (List.mem_of_getElem? hs)) hi (strict_take hst hs) (fun x hx => hv x (List.mem_of_mem_take hx)) ha hc
  have h2 : ∀ j, j ≠ i → firstC j (L.take (k + 1)) = firstC j (L.take k) := fun j hj => by
    rw [take_next hs]; exact find_other (by rw [hi]; omega)
  refine ⟨fun κ => by rw [map_same hs ha]; exact h.map κ, by rw [List.length_set]; exact h.len, fun j e hj he => ?_, by simpa using h.hlen, fun j hj => ?_⟩
  · by_cases hji : j = i
    · subst hji
      rw [h1] at he
      cases he
      rw [List.getElem?_set_self (by rw [h.len]; exact hj)]
    · rw [List.getElem?_set_ne (Ne.symm hji)]
      rw [h2 j hji] at he
      exact h.evs j e hj he
  · by_cases hji : j = i
    · subst hji
      rw [h1, Array.getElem?_setIfInBounds_self_of_lt (by rw [h.hlen]; exact hj)]; rfl
    · rw [Array.getElem?_setIfInBounds_ne (Ne.symm hji), h2 j hji]; exact h.has j hj
theorem find_not_less (hs : L[k]? = some s) (hst : StrictL L) (hv : ∀ x ∈ L, ValidP x.vote) (ha : firstK (kyOf s.vote) (L.take k) = some a) (hi : s.vote.signer = (i : Int)) (hc : firstC i (L.take k) = some e) : lessV a.vote e.a.vote = false :=
  find_later (hv s (List.mem_of_getElem? hs)) hi (strict_take hst hs) (fun x hx => hv x (List.mem_of_mem_take hx)) ha hc
end
/-- Where the first loop stands; w1 is the world in which it began, m the map, f the pairs, h the flags. -/
def FRel (L : List Sg) (w1 : World) (m f h : Nat) (iv : Value) (wr : World) : Prop :=
  ∃ (k : Nat) (M : List (Ky × Value)) (E : List Ev) (hb : Array Value), iv = .int .i64 (k : Int) ∧ k ≤ L.length ∧ FData L k M E hb ∧ MapIs encK wr m M ∧ Blk wr f 78 (E.flatMap evc).toArray ∧ Blk wr h 79 hb ∧ Below w1.heap.size w1 wr
end Go.Proofs.YthmecidpjlaonaaGreat
namespace Go.Proofs.YthmecidpjlaonaaGreat
open Go.RowKit
attribute [local go_sem ↓] Go.wp_at_zero Go.wp_at_succ loadNm loadVt loadSg loadEv
attribute [local go_sem] runNm runVt runSg runEv pickRow_some rowAt_drew rowAt_drewN
set_option maxRecDepth 100000 in
set_option maxHeartbeats 4000000 in
theorem pvfd_core (K A : Option Addr) (nk ck n c : Nat) (keys : List Nm) (l : List Sg) (w : World) (Q : World → Ending → World → Prop) (hnk : keys.length = nk) (hn : l.length = n) (hK : Rd w w.heap.size K (keys.flatMap nmc)) (hr : Rd w w.heap.size A (l.flatMap sgc))
    (hok : SgsOk w w.heap.size l) (hsmall : n ≤ 1000000)
    (hcan : ∀ v W, Below w.heap.size w W → W.ownsRow w.heap.size 34 23 v (vfd keys l).length ((vfd keys l).flatMap sgc) → Calls Tryz.prog 43 #[v] W (Q W)) (hQ : ∀ W e w', Q W e w' → ∃ v, e = .returned v) :
    Calls Tryz.prog 9 #[.slice K nk ck, .slice A n c] w (fun e w' => ∃ W, Below w.heap.size w W ∧ Q W e w') := by
  have HNK := Lib.hid hnk; clear hnk
  have HN := Lib.hid hn; clear hn
  have HK := Lib.hid hK; clear hK
  have HR := Lib.hid hr; clear hr
  have HOk := Lib.hid hok; clear hok
  have HCan := Lib.hid hcan; clear hcan
  have HQ := Lib.hid hQ; clear hQ
  go_enter Tryz.func9, Tryz.ntmps9
  go_wp2
  go_loopw [5, 10] (fun v iv wr => VfdRel keys l w n v iv wr) (fun _ iv _ => n - (intOf iv).toNat)
  case atStart => exact ⟨0, rfl, by omega, ⟨by simp [vfd], .inl ⟨by simp, rfl⟩⟩, Below.refl _ _⟩
  case round =>
    obtain ⟨i, rfl, hin, hown, hbw⟩ := hrel
    by_cases hi : i < n
    · have di : decide ((i : Int) < (n : Int)) = true := by simp; omega
      obtain ⟨T, hT⟩ : ∃ T, T = vfd keys (l.take i) := ⟨_, rfl⟩
      have hTl : T.length ≤ 1000000 := by have := vfd_le keys l i; rw [hT]; omega
      rw [← hT] at hown
      have HT := Lib.hid hT
      have HOwn := Lib.hid hown
      clear hown hT
      obtain ⟨s, hs⟩ : ∃ s, l[i]? = some s := ⟨_, List.getElem?_eq_getElem (by rw [HN.out]; exact hi)⟩
      obtain ⟨b, o, rfl, hb, hcell⟩ := HR.out.cells (by intro e; have := flat_length sgc 23 l (sgc_len l); rw [e, HN.out] at this; simp at this; omega)
      clear hcell
      have x1 : rowAt wr b (o + i * 23) 23 = some s.cells := (HR.out.below hbw).sgRow hs
      have hsm : s ∈ l := List.mem_of_getElem? hs
      have hver := fun W (hW : Below w.heap.size w W) => pverify_any K ck keys s W ((HK.out.below hW).more hW.size) (((HOk.out s hsm).1.below hW).more hW.size) (HOk.out s hsm).2
      rw [HNK.out] at hver
      have HVer := Lib.hid hver
      have HS := Lib.hid hs
      clear hver hs hsm
      go_upto_region 5 with (refine wpList_store_blk rfl 34 (.tmp 7) (.tmp 13) rfl wr.heap.size s.cells rfl rfl 34 zeroSc (Blk.new wr _ _) (by rw [s.size_cells]; rfl) (by rw [s.size_cells]; kernel_rfl) (fun u hu => s.one u hu) ?_; intro w4 hB4 hg4 hsz4)
      have HOwn4 : Hid (w4.ownsRow w.heap.size 34 23 u5 T.length (T.flatMap sgc)) := own_kept (HOwn.out.alloc _) hg4 (fun k hk => by
        injection hk with hk
        subst hk
        right
        intro e
        have := (HOwn.out.lt _ e).2
        omega)
      have hbw4 : Below w.heap.size w w4 := (hbw.alloc hbw.size _).grown hg4 (Nat.le_trans hbw.size (by simp)) (fun k hk => by injection hk with hk; subst hk; exact hbw.size)
      have hw4 : w4.heap.size = wr.heap.size + 1 := by rw [hsz4]; simp
      have HBx := Lib.hid hB4
      obtain ⟨q, hq⟩ : ∃ q, q = wr.heap.size := ⟨_, rfl⟩
      rw [← hq] at HBx hw4 ⊢
      have hq4 : q < w4.heap.size := by omega
      have x4 : rowAt w4 q 0 23 = some s.cells := HBx.out.row 23 s.size_cells
      clear hB4 hg4 hsz4 x1 hq HOwn hbw
      go_frame
      by_cases hv : verK keys s.vote s.sig = true
      · have HV := Lib.hid hv
        rw [hv] at HVer
        clear hv
        go_wp2_with ((first
          | (go_at_call 42; refine (HVer.out _ hbw4).mono ?_; rintro en w2 ⟨rfl, hb2⟩; have hbw2 := hbw4.trans (hb2.mono hbw4.size); have x2 : rowAt w2 q 0 23 = some s.cells := rowAt_below x4 hb2 hq4; have hown2 := Lib.hid (own_below HOwn4.out hb2 (Nat.le_refl _)); clear hb2 x4)
          | (refine wpList_build1 rfl 23 34 (.tmp 18) rfl s.cells rfl Tryz.underlying23 (by rw [Sg.size_cells]; kernel_rfl) (by rw [Sg.size_cells]; omega) (by rw [Sg.size_cells]; omega) ?_)
          | (at_builtin; refine wpList_app rfl (.tmp 17) (.tmp 19) _ rfl w.heap.size 34 (.agg zeroSc) 23 88 Tryz.underlying23 info_signed rfl (by decide) u5 T.length (T.flatMap sgc) rfl ?r0 (w2.heap.size + 1) (some ⟨w2.heap.size, 0, none⟩) 1 1 (sgc s) rfl ?r1 ?r2 ?r3 ?r4 ?r5 ?r6 ?_)))
        case r0 => exact hown2.out.alloc _
        case r1 => rw [Array.length_toList]; exact s.size_cells
        case r2 => exact Rd.mk (by omega) (fun j u hu => by rw [Nat.zero_add, (Blk.new w2 _ _).cell]; simpa using hu)
        case r3 => exact fun u hu => s.one u hu
        case r4 => omega
        case r5 => unfold maxLen; omega
        case r6 => have := hbw2.size; simp; omega
        intro v3 w3 hown3 hg3 hat3
        have hbw3 : Below w.heap.size w w3 := below_own (hbw2.alloc hbw2.size _) (hown2.out.alloc _) hg3
        have HOwn3 := Lib.hid hown3
        clear hown3 hg3 hat3 hown2 hbw2 x2
        go_wp2
        go_roundw
        case rel =>
          refine ⟨i + 1, by go_num, by omega, ?_, hbw3⟩
          have h := HOwn3.out
          rw [HT.out] at h
          rw [vfd_take HS.out, if_pos HV.out, List.length_append, List.flatMap_append]
          simpa using h
        case measure => simp [intOf]; omega
      · have HV := Lib.hid hv
        rw [Bool.eq_false_iff.mpr hv] at HVer
        clear hv
        go_wp2_with ((go_at_call 42; refine (HVer.out _ hbw4).mono ?_; rintro en w2 ⟨rfl, hb2⟩; have hbw2 := hbw4.trans (hb2.mono hbw4.size); have hown2 := Lib.hid (own_below HOwn4.out hb2 (Nat.le_refl _)); clear hb2 x4))
        go_roundw
        case rel =>
          refine ⟨i + 1, by go_num, by omega, ?_, hbw2⟩
          have h := hown2.out
          rw [HT.out] at h
          rw [vfd_take HS.out, if_neg HV.out, List.append_nil]
          exact h
        case measure => simp [intOf]; omega
    · obtain rfl : n = i := by omega
      have HT : Hid (l.take n = l) := by unfold Hid; rw [← HN.out, List.take_length]
      rw [HT.out] at hown
      have HOwn2 := Lib.hid hown
      clear hown
      go_wp2_with fail
      refine (HCan.out _ _ hbw HOwn2.out).mono ?_
      rintro en w2 hq
      obtain ⟨v, rfl⟩ := HQ.out _ _ _ hq
      go_wp2
      go_ret
      exact ⟨_, hbw, hq⟩

theorem pvfd_any (K A : Option Addr) (nk ck n c : Nat) (keys : List Nm) (l : List Sg) (w : World) (hnk : keys.length = nk) (hn : l.length = n) (hK : Rd w w.heap.size K (keys.flatMap nmc)) (hr : Rd w w.heap.size A (l.flatMap sgc))
    (hok : SgsOk w w.heap.size l) (hsmall : n ≤ 1000000) : Calls Tryz.prog 9 #[.slice K nk ck, .slice A n c] w (CanPost w ((vfd keys l).map Sg.vs)) := by
  refine (pvfd_core K A nk ck n c keys l w (fun W => CanPost W ((vfd keys l).map Sg.vs)) hnk hn hK hr hok hsmall ?_ ?_).mono ?_
  · intro v W hb hown
    obtain ⟨A', c', rfl, h1, h2, h3, h4⟩ := own_slice hown rfl (((hok.sub vfd_sub).below hb).more hb.size)
    have hl := vfd_all_le keys l
    exact pcan_any A' _ c' _ W rfl h1 h4 (by omega)
  · rintro W e w' ⟨L, v, rfl, _⟩
    exact ⟨v, rfl⟩
  · rintro e w' ⟨W, hb, L, v, rfl, hb', hown, hok', he⟩
    exact ⟨L, v, rfl, hb.trans (hb'.mono hb.size), own_base hown hb.size, hok', he⟩
end Go.Proofs.YthmecidpjlaonaaGreat
namespace Go.Proofs.YthmecidpjlaonaaGreat
open Go.RowKit
attribute [local go_sem ↓] Go.wp_at_zero Go.wp_at_succ loadNm loadVt loadSg loadEv
attribute [local go_sem] runNm runVt runSg runEv pickRow_some rowAt_drew rowAt_drewN
attribute [local go_sem ↓] allocF loadF
attribute [local go_sem] runF runLF
/-- What Find returns, wherever it lies. -/
def FoundPost (w : World) (c : List ES) (e : Ending) (w' : World) : Prop :=
  ∃ (E : List Ev) (v : Value), e = .returned v ∧ Below w.heap.size w w' ∧ w'.ownsRow w.heap.size 51 46 v E.length (E.flatMap evc) ∧ (∀ x ∈ E, (SgOk w' w'.heap.size x.a ∧ SgCap x.a) ∧ (SgOk w' w'.heap.size x.b ∧ SgCap x.b)) ∧ E.map Ev.vs = c
def EvOwn (w : World) (b : Nat) (e : Ev) : Prop := SgOwn w b e.a ∧ SgOwn w b e.b
/-- Where the second loop stands. -/
def ORel (L : List Sg) (w2 : World) (v iv : Value) (wr : World) : Prop :=
  ∃ (k : Nat) (O : List Ev), iv = .int .i64 (k : Int) ∧ k ≤ 10 ∧ O.map Ev.vs = (findF L k).map Ev.vs ∧ wr.ownsRow w2.heap.size 51 46 v O.length (O.flatMap evc) ∧ (∀ x ∈ O, EvOwn wr w2.heap.size x) ∧ Below w2.heap.size w2 wr
theorem SgOwn.base {w : World} {b b' : Nat} {s : Sg} (h : SgOwn w b s) (hb : b' ≤ b) : SgOwn w b' s := ⟨h.1, own_base h.2.1 hb, h.2.2⟩
theorem SgOwn.farE {w w' : World} {b b' m n : Nat} {v : Value} {xs : List Value} {s : Sg} (h : SgOwn w b s) (h' : w.ownsRow b' 51 m v n xs) (hg : w.grownBy w' v.ownBlock) : SgOwn w' b s := ⟨h.1, own_far h.2.1 h' (by decide) hg, h.2.2⟩
theorem EvOwn.below {w w' : World} {b B' : Nat} {e : Ev} (h : EvOwn w b e) (hb : Below B' w w') (hB : w.heap.size ≤ B') : EvOwn w' b e := ⟨h.1.below hb hB, h.2.below hb hB⟩
theorem EvOwn.alloc {w : World} {b : Nat} {e : Ev} (h : EvOwn w b e) (o : Obj) : EvOwn (w.alloc o) b e := ⟨h.1.alloc o, h.2.alloc o⟩
theorem EvOwn.farE {w w' : World} {b b' m n : Nat} {v : Value} {xs : List Value} {e : Ev} (h : EvOwn w b e) (h' : w.ownsRow b' 51 m v n xs) (hg : w.grownBy w' v.ownBlock) : EvOwn w' b e := ⟨h.1.farE h' hg, h.2.farE h' hg⟩
theorem index_ev (l : List Ev) (i : Nat) (e : Ev) (hl : l.length = 10) (hi : l[i]? = some e) (w : World) : (Instr.index 78 (.agg (l.flatMap evc).toArray) (.int .i64 (i : Int))).run Tryz.prog w = .ok e.val w := by
  have hlt := (List.getElem?_eq_some_iff.1 hi).1
  have h1 : (isAgg 51).run Tryz.prog w = .ok true w := by kernel_rfl
  have h2 : (sizeOf 51).run Tryz.prog w = .ok 46 w := by kernel_rfl
  have hp : (part 51 (l.flatMap evc).toArray (i * 46)).run Tryz.prog w = .ok e.val w := by
    unfold part
    rw [Sem.run_bind, h1, Result.andThen_ok, if_pos rfl, Sem.run_bind, h2, Result.andThen_ok, Sem.run_pure]
    have : (l.flatMap evc).toArray.extract (i * 46) (i * 46 + 46) = e.cells := by
      apply Array.ext_getElem?
      intro j
      rw [Array.getElem?_extract]
      have hs : (l.flatMap evc).toArray.size = 460 := by rw [List.size_toArray, evc_length, hl]
      rw [hs]
      by_cases hj : j < 46
      · rw [if_pos (by omega), List.getElem?_toArray, flat_get evc 46 l (evc_len l) i j e hi hj]
        simp
      · rw [if_neg (by omega), Array.getElem?_eq_none (by rw [e.size_cells]; omega)]
    rw [this]
  unfold Instr.index
  rw [Sem.run_bind]
  have h3 : (asIntOf (.int .i64 (i : Int))).run Tryz.prog w = .ok (.i64, (i : Int)) w := rfl
  rw [h3, Result.andThen_ok]
  simp only [Sem.run_bind, run_underlying Tryz.underlying78, Result.andThen_ok]
  rw [if_pos (by omega), Sem.run_bind, h2, Result.andThen_ok, Int.toNat_natCast, hp]
theorem zero_sg : ∀ w, (zeroValue 34).run Tryz.prog w = .ok (.agg zeroSc) w := fun w => by
  obtain ⟨i, hi, hz, _⟩ := info_parts info_signed
  simp [zeroValue, typeInfo, hi, hz]

set_option maxRecDepth 100000 in
set_option maxHeartbeats 4000000 in
theorem pfind_any (K A : Option Addr) (nk ck n0 c : Nat) (keys : List Nm) (l : List Sg) (w : World) (hnk : keys.length = nk) (hn : l.length = n0) (hK : Rd w w.heap.size K (keys.flatMap nmc)) (hr : Rd w w.heap.size A (l.flatMap sgc))
    (hok : SgsOk w w.heap.size l) (hsmall : n0 ≤ 1000000) : Calls Tryz.prog 13 #[.slice K nk ck, .slice A n0 c] w (FoundPost w (findS (cvS keys (l.map Sg.vs)) 10)) := by
  have h1 := pvfd_any K A nk ck n0 c keys l w hnk hn hK hr hok hsmall
  obtain ⟨cl, hcl⟩ : ∃ cl, cl = cvS keys (l.map Sg.vs) := ⟨_, rfl⟩
  have hcs : StrictV cl := by rw [hcl]; exact cvS_strict _ _
  have hcv : ∀ x ∈ cl, ValidP x.1 := by rw [hcl]; exact cvS_valid
  have hl : cl.length ≤ 1000000 := by
    have a := canF_len (vfS keys (l.map Sg.vs))
    have b := List.length_filter_le (fun x : VS => verK keys x.1 x.2) (l.map Sg.vs)
    rw [List.length_map] at b
    rw [hcl]; unfold cvS
    unfold vfS at a ⊢
    omega
  have H1 : Hid (Calls Tryz.prog 9 #[.slice K nk ck, .slice A n0 c] w fun e w' => ∃ (L : List Sg) (v : Value), e = .returned v ∧ Below w.heap.size w w' ∧ SlOk w' L v ∧ L.map Sg.vs = cl) := by
    refine h1.mono ?_
    rintro e w' ⟨L, v, rfl, hb, hown, hok', he⟩
    exact ⟨L, v, rfl, hb, own_slice hown rfl hok', by rw [he, hcl, vfd_vs]; rfl⟩
  rw [← hcl]
  have HCs := Lib.hid hcs
  have HCv := Lib.hid hcv
  have hmk : ∀ W : World, (Instr.makeMap 77 none).run Tryz.prog W = .ok (.map (some W.heap.size)) (W.alloc (.map #[] 0)) := fun W => rfl
  clear h1 hcl hK hr hok hn hnk hcs hcv
  go_enter Tryz.func13, Tryz.ntmps13
  go_upto_region 5 with (go_at_call 9; refine H1.out.mono ?_; rintro en w1 ⟨L, v, rfl, hb1, ⟨A2, c2, rfl, hr2, hc2, hm2, hk2⟩, he2⟩)
  have hL : L.length ≤ 1000000 := by
    have := congrArg List.length he2
    rw [List.length_map] at this
    omega
  obtain ⟨n, hnL⟩ : ∃ n, n = L.length := ⟨_, rfl⟩
  rw [← hnL]
  rw [← hnL] at hL hc2
  have HN : Hid (L.length = n) := hnL.symm
  have HR := Lib.hid hr2
  have HOk := Lib.hid hk2
  have HE := Lib.hid he2
  have HSt : Hid (StrictL L) := by unfold Hid; rw [strictL_iff, he2]; exact HCs.out
  have HVd : Hid (∀ x ∈ L, ValidP x.vote) := fun x hx => HCv.out x.vs (by rw [← he2]; exact List.mem_map_of_mem hx)
  clear hr2 hk2 he2 hnL H1 hmk
  obtain ⟨w2, hw2⟩ : ∃ w2, w2 = ((w1.alloc (.map #[] 0)).alloc (.cells zeroFound 78)).alloc (.cells #[.bool false, .bool false, .bool false, .bool false, .bool false, .bool false, .bool false, .bool false, .bool false, .bool false] 79) := ⟨_, rfl⟩
  rw [← hw2]
  have hM0 : MapIs encK w2 w1.heap.size [] := by rw [hw2]; exact ((MapIs.new encK w1).alloc _).alloc _
  have hE0 : Blk w2 (w1.heap.size + 1) 78 ((List.replicate 10 zeroEv).flatMap evc).toArray := by
    rw [hw2]
    have := (Blk.new (w1.alloc (.map #[] 0)) 78 zeroFound).alloc (.cells #[.bool false, .bool false, .bool false, .bool false, .bool false, .bool false, .bool false, .bool false, .bool false, .bool false] 79)
    rw [show ((List.replicate 10 zeroEv).flatMap evc).toArray = zeroFound from rfl]
    simpa using this
  have hB0 : Blk w2 (w1.heap.size + 2) 79 #[.bool false, .bool false, .bool false, .bool false, .bool false, .bool false, .bool false, .bool false, .bool false, .bool false] := by
    rw [hw2]
    have := Blk.new ((w1.alloc (.map #[] 0)).alloc (.cells zeroFound 78)) 79 #[.bool false, .bool false, .bool false, .bool false, .bool false, .bool false, .bool false, .bool false, .bool false, .bool false]
    simpa using this
  have hb12 : Below w1.heap.size w1 w2 := by rw [hw2]; exact (((Below.refl _ _).alloc (Nat.le_refl _) _).alloc (by simp) _).alloc (by simp; omega) _
  have hw2s : w2.heap.size = w1.heap.size + 3 := by rw [hw2]; simp
  clear hw2
  obtain ⟨m, hm⟩ : ∃ m, m = w1.heap.size := ⟨_, rfl⟩
  obtain ⟨f, hf⟩ : ∃ f, f = w1.heap.size + 1 := ⟨_, rfl⟩
  obtain ⟨h, hh⟩ : ∃ h, h = w1.heap.size + 2 := ⟨_, rfl⟩
  rw [← hh, ← hf, ← hm]
  rw [← hm] at hM0
  rw [← hf] at hE0
  rw [← hh] at hB0
  have HRel0 : Hid (FRel L w1 m f h (.int .i64 ((0 : Nat) : Int)) w2) := ⟨0, [], _, _, rfl, Nat.zero_le _, FData.zero L, hM0, hE0, hB0, hb12⟩
  have hmf : m ≠ f := by omega
  have hmh : m ≠ h := by omega
  have hfh : f ≠ h := by omega
  have hm1 : w1.heap.size ≤ m := by omega
  have hf1 : w1.heap.size ≤ f := by omega
  have hh1 : w1.heap.size ≤ h := by omega
  clear hM0 hE0 hB0 hb12 hw2s hm hf hh
  go_wp2
  go_loopw [24] (fun iv wr => FRel L w1 m f h iv wr) (fun iv _ => n - (intOf iv).toNat)
  case atStart => exact HRel0.out
  case round =>
    clear HRel0
    obtain ⟨k, M, E, hb, rfl, hkn, hD, hM, hE, hB, hbw⟩ := hrel
    rw [HN.out] at hkn
    have HD := Lib.hid hD
    have HM := Lib.hid hM
    have HEb := Lib.hid hE
    have HBb := Lib.hid hB
    have hmw := hM.lt
    have hfw := hE.lt
    have hhw := hB.lt
    clear hD hM hE hB
    by_cases hi : k < n
    · have di : decide ((k : Int) < (n : Int)) = true := by simp; omega
      obtain ⟨s, hs⟩ : ∃ s, L[k]? = some s := ⟨_, List.getElem?_eq_getElem (by rw [HN.out]; exact hi)⟩
      obtain ⟨b, o, rfl, hbb, hcell⟩ := HR.out.cells (by intro e; have := flat_length sgc 23 L (sgc_len L); rw [e, HN.out] at this; simp at this; omega)
      clear hcell
      have x1 : rowAt wr b (o + k * 23) 23 = some s.cells := (HR.out.below hbw).sgRow hs
      have hvs := HVd.out s (List.mem_of_getElem? hs)
      obtain ⟨sn, hsn⟩ := Int.eq_ofNat_of_zero_le hvs.2.1.1
      have hsn10 : sn < 10 := by have := hvs.2.1.2; omega
      have HSn := Lib.hid hsn
      have HS := Lib.hid hs
      clear hs hvs hsn
      go_upto_region 8 with (refine wpList_store_blk rfl 34 (.tmp 10) (.tmp 27) rfl wr.heap.size s.cells rfl rfl 34 zeroSc (Blk.new wr _ _) (by rw [s.size_cells]; rfl) (by rw [s.size_cells]; kernel_rfl) (fun u hu => s.one u hu) ?_; intro w4 hB4 hg4 hsz4)
      obtain ⟨q, hq⟩ : ∃ q, q = wr.heap.size := ⟨_, rfl⟩
      rw [← hq] at hB4 hg4 ⊢
      have HM4 : Hid (MapIs encK w4 m M) := (HM.out.alloc _).kept hg4 (by simp; omega)
      have HE4 : Hid (Blk w4 f 78 (E.flatMap evc).toArray) := (HEb.out.alloc _).kept hg4 (by simp; omega)
      have HB4 : Hid (Blk w4 h 79 hb) := (HBb.out.alloc _).kept hg4 (by simp; omega)
      have hbw4 : Below w1.heap.size w1 w4 := (hbw.alloc hbw.size _).grown hg4 (Nat.le_trans hbw.size (by simp)) (fun j hj => by injection hj with hj; subst hj; rw [hq]; exact hbw.size)
      have hw4 : w4.heap.size = q + 1 := by rw [hsz4, hq]; simp
      have HQ4 := Lib.hid hB4
      have hq1 : w1.heap.size ≤ q := by rw [hq]; exact hbw.size
      have hqm : q ≠ m := by omega
      have hqf : q ≠ f := by omega
      have hqh : q ≠ h := by omega
      have c4 : w4.cell? ⟨q, 4, none⟩ = some (.int .i64 (sn : Int)) := by rw [← HSn.out]; exact (HQ4.out.cell 4).trans (s.cell_vote 4 _ rfl)
      have x22 : rowAt w4 q 0 22 = some s.vote.cells := s.row_vote HQ4.out
      clear hB4 hg4 hsz4 x1 hq HM HEb HBb hmw hfw hhw hbw
      go_frame
      obtain ⟨κ, hκ⟩ : ∃ κ, κ = kyOf s.vote := ⟨_, rfl⟩
      have HOf : Hid (∀ W, Calls Tryz.prog 45 #[s.vote.val] W (KyPost W κ)) := fun W => by rw [hκ]; exact kyof_any s.vote W
      have HKy := Lib.hid hκ
      clear hκ
      have hlook : Hid (∀ W, Below w4.heap.size w4 W → (Instr.lookup 77 (.map (some m)) (encK κ) true).run Tryz.prog W = .ok (.tuple #[(alook κ M).getD (.agg zeroSc), .bool (alook κ M).isSome]) W) := fun W hW =>
        (HM4.out.below hW HM4.out.lt).look keyK Tryz.underlying77 _ (zero_sg W) κ true
      rcases hF : firstK κ (L.take k) with _ | a
      · have hal : alook κ M = none := by rw [HD.out.map κ, hF]; rfl
        rw [hal] at hlook
        have HF := Lib.hid hF
        clear hF hal
        go_upto_region 11 with (first
          | (go_at_call 45; refine (HOf.out _).mono ?_; rintro en w5 ⟨rfl, hb5⟩; have hbx5 := hb5; have hlk := hlook.out _ hb5; simp only [Option.getD_none, Option.isSome_none] at hlk)
          | (refine wpList_store_blk rfl 34 (.tmp 12) (.tmp 37) rfl w5.heap.size zeroSc rfl rfl 34 zeroSc (Blk.new w5 _ _) rfl size_sg (fun u hu => one_zs hu) ?_; intro w6 hB6 hg6 hsz6))
        obtain ⟨q2, hq2⟩ : ∃ q2, q2 = w5.heap.size := ⟨_, rfl⟩
        rw [← hq2] at hB6 hg6 ⊢
        have hq2m : m < q2 := by rw [hq2]; exact (HM4.out.below hb5 HM4.out.lt).lt
        have hq2f : f < q2 := by rw [hq2]; exact (HE4.out.below hb5 HE4.out.lt).lt
        have hq2h : h < q2 := by rw [hq2]; exact (HB4.out.below hb5 HB4.out.lt).lt
        have hq2q : q < q2 := by rw [hq2]; exact (HQ4.out.below hb5 HQ4.out.lt).lt
        have hq21 : w1.heap.size ≤ q2 := by omega
        have HM6 : Hid (MapIs encK w6 m M) := (((HM4.out.below hb5 HM4.out.lt).alloc _).kept hg6 (by simp; omega))
        have HE6 : Hid (Blk w6 f 78 (E.flatMap evc).toArray) := (((HE4.out.below hb5 HE4.out.lt).alloc _).kept hg6 (by simp; omega))
        have HB6 : Hid (Blk w6 h 79 hb) := (((HB4.out.below hb5 HB4.out.lt).alloc _).kept hg6 (by simp; omega))
        have HQ6 : Hid (Blk w6 q 34 s.cells) := (((HQ4.out.below hb5 HQ4.out.lt).alloc _).kept hg6 (by simp; omega))
        have hbw5 : Below w1.heap.size w1 w5 := hbw4.trans (hb5.mono hbw4.size)
        have hbw6 : Below w1.heap.size w1 w6 := (hbw5.alloc hbw5.size _).grown hg6 (Nat.le_trans hbw5.size (by simp)) (fun j hj => by injection hj with hj; subst hj; exact hq21)
        have hw6 : q2 < w6.heap.size := by rw [hsz6, hq2]; simp
        have HA6 := Lib.hid hB6
        clear hB6 hg6 hsz6 hlk hlook hq2 hbw5 hbx5 hb5 hbw4 c4 x22 HM4 HE4 HB4 HQ4 hw4
        try go_frame
        have HRows : Hid (∀ V, Below w6.heap.size w6 V → rowAt V q 0 22 = some s.vote.cells ∧ rowAt V q 0 23 = some s.cells) := fun V hV => ⟨s.row_vote (HQ6.out.below hV HQ6.out.lt), (HQ6.out.below hV HQ6.out.lt).row 23 s.size_cells⟩
        have hbx : Below w6.heap.size w6 w6 := Below.refl _ _
        refine wp_region_noPanic ?_
        refine wp_region_held_drew (S := fun w' => rowAt w' q 0 22 = some s.vote.cells ∧ rowAt w' q 0 23 = some s.cells) (by kernel_rfl) (HRows.out _ hbx.drew) (fun hHeld => ?_)
        refine wpAnyH_takeD (some 41) (i := 0) (v := ?vh2_0) rfl rfl (by kernel_rfl) (by kernel_rfl) (by kernel_rfl) (fun _ _ _ h => h) (by rfl) ?hh2_0 (by assumption) ?_
        case hh2_0 => (intro wq hSw; (try dsimp only at hSw); go_simp; (try (with_reducible rfl)))
        go_frame
        refine wpAnyH_takeD (some 42) (i := 1) (v := ?vh2_1) rfl rfl (by kernel_rfl) (by kernel_rfl) (by kernel_rfl) (fun _ _ _ h => h) (by rfl) ?hh2_1 (by assumption) ?_
        case hh2_1 => (intro wq hSw; (try dsimp only at hSw); go_simp; (try (with_reducible rfl)))
        go_frame
        refine wpAnyH_takeD (some 43) (i := 2) (v := ?vh2_2) rfl rfl (by kernel_rfl) (by kernel_rfl) (by kernel_rfl) (fun _ _ _ h => h) (by rfl) ?hh2_2 (by assumption) ?_
        case hh2_2 => (intro wq hSw; (try dsimp only at hSw); go_simp; (try (with_reducible rfl)))
        go_frame
        refine wpAnyH_takeD (some 45) (i := 4) (v := ?vh2_4) rfl rfl (by kernel_rfl) (by kernel_rfl) (by kernel_rfl) (fun _ _ _ h => h) (by rfl) ?hh2_4 (by assumption) ?_
        case hh2_4 => (intro wq hSw; (try dsimp only at hSw); go_simp; (try (with_reducible rfl)))
        go_frame
        refine wpAnyH_ready (rs := [3]) (by kernel_rfl) (by simp) ?_
        refine AllReadyH.cons rfl (fun K hK => ?_) AllReadyH.nil
        go_simp
        refine (HOf.out _).mono ?_; rintro en w7 ⟨rfl, hb7⟩; have hbx7 := hbx.drew.trans (hb7.mono (Nat.le_refl _))
        go_wp2_with fail
        refine hK.out _ _ (HRows.out _ hbx7) (fun hHeld => ?_)
        clear hK K
        try go_frame
        refine wpAnyH_ready (rs := [5]) (by kernel_rfl) (by simp) ?_
        refine AllReadyH.cons rfl (fun K hK => ?_) AllReadyH.nil
        rw [if_pos (by rfl)]
        refine wp_mapK (enc := encK) 77 34 (.tmp 41) (.tmp 44) (.tmp 45) (by rfl) (by rfl) m κ s.val M (by rfl) (by rfl) (by rfl) (HM6.out.below hbx7 HM6.out.lt) keyK Tryz.underlying77 ?_; intro w8 hM8 hg8 hsz8; have HM8 := Lib.hid hM8; have HE8 : Hid (Blk w8 f 78 (E.flatMap evc).toArray) := (HE6.out.below hbx7 HE6.out.lt).kept hg8 (by simp; omega); have HB8 : Hid (Blk w8 h 79 hb) := (HB6.out.below hbx7 HB6.out.lt).kept hg8 (by simp; omega); have hbw7 := hbw6.trans (hbx7.mono hbw6.size); have hbw8 : Below w1.heap.size w1 w8 := hbw7.grown hg8 hbw7.size (fun j hj => by injection hj with hj; subst hj; exact hm1); have HRows8 : Hid (rowAt w8 q 0 22 = some s.vote.cells ∧ rowAt w8 q 0 23 = some s.cells) := ⟨s.row_vote ((HQ6.out.below hbx7 HQ6.out.lt).kept hg8 (by simp; omega)), ((HQ6.out.below hbx7 HQ6.out.lt).kept hg8 (by simp; omega)).row 23 s.size_cells⟩
        refine hK.out _ _ (HRows8.out) (fun hHeld => ?_)
        clear hK K
        try go_frame
        refine wpAnyH_done (by kernel_rfl) ?_ _
        refine NoPanic.normal ?_
        go_wp2_with fail
        go_roundw
        case rel =>
          refine ⟨k + 1, _, E, hb, by go_num, by rw [HN.out]; omega, ?_, HM8.out, HE8.out, HB8.out, hbw8⟩
          rw [HKy.out]
          exact HD.out.new HS.out (by rw [← HKy.out]; exact HF.out)
        case measure => simp [intOf]; omega
      · have hal : alook κ M = some a.val := by rw [HD.out.map κ, hF]; rfl
        rw [hal] at hlook
        have HF := Lib.hid hF
        have ham : a ∈ L := List.mem_of_mem_take (firstK_mem hF).1
        have HAk := Lib.hid (HOk.out a ham)
        clear hF hal ham
        go_upto_region 12 with (first
          | (go_at_call 45; refine (HOf.out _).mono ?_; rintro en w5 ⟨rfl, hb5⟩; have hbx5 := hb5; have hlk := hlook.out _ hb5; simp only [Option.getD_some, Option.isSome_some] at hlk)
          | (refine wpList_store_blk rfl 34 (.tmp 12) (.tmp 37) rfl w5.heap.size a.cells rfl rfl 34 zeroSc (Blk.new w5 _ _) (by rw [a.size_cells]; rfl) (by rw [a.size_cells]; kernel_rfl) (fun u hu => a.one u hu) ?_; intro w6 hB6 hg6 hsz6))
        obtain ⟨q2, hq2⟩ : ∃ q2, q2 = w5.heap.size := ⟨_, rfl⟩
        rw [← hq2] at hB6 hg6 ⊢
        have hq2m : m < q2 := by rw [hq2]; exact (HM4.out.below hb5 HM4.out.lt).lt
        have hq2f : f < q2 := by rw [hq2]; exact (HE4.out.below hb5 HE4.out.lt).lt
        have hq2h : h < q2 := by rw [hq2]; exact (HB4.out.below hb5 HB4.out.lt).lt
        have hq2q : q < q2 := by rw [hq2]; exact (HQ4.out.below hb5 HQ4.out.lt).lt
        have hq21 : w1.heap.size ≤ q2 := by omega
        have HM6 : Hid (MapIs encK w6 m M) := (((HM4.out.below hb5 HM4.out.lt).alloc _).kept hg6 (by simp; omega))
        have HE6 : Hid (Blk w6 f 78 (E.flatMap evc).toArray) := (((HE4.out.below hb5 HE4.out.lt).alloc _).kept hg6 (by simp; omega))
        have HB6 : Hid (Blk w6 h 79 hb) := (((HB4.out.below hb5 HB4.out.lt).alloc _).kept hg6 (by simp; omega))
        have HQ6 : Hid (Blk w6 q 34 s.cells) := (((HQ4.out.below hb5 HQ4.out.lt).alloc _).kept hg6 (by simp; omega))
        have hbw5 : Below w1.heap.size w1 w5 := hbw4.trans (hb5.mono hbw4.size)
        have hbw6 : Below w1.heap.size w1 w6 := (hbw5.alloc hbw5.size _).grown hg6 (Nat.le_trans hbw5.size (by simp)) (fun j hj => by injection hj with hj; subst hj; exact hq21)
        have hw6 : q2 < w6.heap.size := by rw [hsz6, hq2]; simp
        have HA6 := Lib.hid hB6
        clear hB6 hg6 hsz6 hlk hlook hq2 hbw5 hbx5 hb5 hbw4 c4 x22 HM4 HE4 HB4 HQ4 hw4
        try go_frame
        have HFa : Hid (firstK (kyOf s.vote) (L.take k) = some a) := by unfold Hid; rw [← HKy.out]; exact HF.out
        have xa : rowAt w6 q2 0 23 = some a.cells := HA6.out.row 23 a.size_cells
        have xs : rowAt w6 q 0 23 = some s.cells := HQ6.out.row 23 s.size_cells
        go_upto_region 13 with (first
          | (refine Great.wpList_readTo rfl (some 48) rfl (Ev.mk a s).val (run_buildEv a s (.tmp 46) (.tmp 47) rfl rfl rfl _) ?_)
          | (refine wpList_store_blk rfl 51 (.tmp 14) (.tmp 48) rfl w6.heap.size (Ev.mk a s).cells rfl rfl 51 zeroEc (Blk.new w6 _ _) (by rw [Ev.size_cells]; rfl) (by rw [Ev.size_cells]; exact size_ev) (fun u hu => one_ev _ hu) ?_; intro w8 hB8 hg8 hsz8))
        have HE8 : Hid (Blk w8 f 78 (E.flatMap evc).toArray) := (HE6.out.alloc _).kept hg8 (by simp; omega)
        have HB8 : Hid (Blk w8 h 79 hb) := (HB6.out.alloc _).kept hg8 (by simp; omega)
        have HM8 : Hid (MapIs encK w8 m M) := (HM6.out.alloc _).kept hg8 (by simp; omega)
        have HA8 : Hid (Blk w8 q2 34 a.cells) := (HA6.out.alloc _).kept hg8 (by simp; omega)
        have hbw8 : Below w1.heap.size w1 w8 := (hbw6.alloc hbw6.size _).grown hg8 (Nat.le_trans hbw6.size (by simp)) (fun j hj => by injection hj with hj; subst hj; exact hbw6.size)
        have hw8 : w6.heap.size < w8.heap.size := by rw [hsz8]; simp
        obtain ⟨q3, hq3⟩ : ∃ q3, q3 = w6.heap.size := ⟨_, rfl⟩
        rw [← hq3] at hB8 ⊢
        have HC8 := Lib.hid hB8
        have hq3f : f < q3 := by omega
        have hq3h : h < q3 := by omega
        have hq3m : m < q3 := by omega
        clear hq3
        have hE10 := HD.out.len
        have hbsz := HD.out.hlen
        have i0 : (0 : Int) ≤ (sn : Int) := by omega
        have i1 : (sn : Int) < 10 := by omega
        clear hB8 hg8 hsz8 xa xs HM6 HE6 HB6 HQ6 HA6 hbw6
        go_frame
        rcases hC : firstC sn (L.take k) with _ | e
        · have hh0 := HD.out.has sn hsn10
          rw [hC] at hh0
          have HC := Lib.hid hC
          clear hC
          have HRows : Hid (∀ V, Below w8.heap.size w8 V → V.cell? ⟨h, sn, none⟩ = some (.bool false)) := fun V hV => ((HB8.out.below hV HB8.out.lt).cell sn).trans hh0
          have hbx : Below w8.heap.size w8 w8 := Below.refl _ _
          refine wp_region_noPanic ?_
          refine wp_region_held_drew (S := fun w' => w'.cell? ⟨h, sn, none⟩ = some (.bool false)) (by kernel_rfl) (HRows.out _ hbx.drew) (fun hHeld => ?_)
          refine wpAnyH_takeD (some 49) (i := 0) (v := ?vh3_0) rfl rfl (by kernel_rfl) (by kernel_rfl) (by kernel_rfl) (fun _ _ _ h => h) (by rfl) ?hh3_0 (by assumption) ?_
          case hh3_0 => (intro wq hSw; (try dsimp only at hSw); go_simp; (try (with_reducible rfl)))
          go_frame
          refine wpAnyH_takeD (some 50) (i := 1) (v := ?vh3_1) rfl rfl (by kernel_rfl) (by kernel_rfl) (by kernel_rfl) (fun _ _ _ h => h) (by rfl) ?hh3_1 (by assumption) ?_
          case hh3_1 => (intro wq hSw; (try dsimp only at hSw); go_simp; (try (with_reducible rfl)))
          go_frame
          refine wpAnyH_takeD (some 51) (i := 2) (v := ?vh3_2) rfl rfl (by kernel_rfl) (by kernel_rfl) (by kernel_rfl) (fun _ _ _ h => h) (by rfl) ?hh3_2 (by assumption) ?_
          case hh3_2 => (intro wq hSw; (try dsimp only at hSw); go_simp; (try (with_reducible rfl)))
          go_frame
          refine wpAnyH_takeD (some 52) (i := 3) (v := ?vh3_3) rfl rfl (by kernel_rfl) (by kernel_rfl) (by kernel_rfl) (fun _ _ _ h => h) (by rfl) ?hh3_3 (by assumption) ?_
          case hh3_3 => (intro wq hSw; (try dsimp only at hSw); go_simp; (try (with_reducible rfl)))
          go_frame
          refine wpAnyH_takeD (some 53) (i := 4) (v := ?vh3_4) rfl rfl (by kernel_rfl) (by kernel_rfl) (by kernel_rfl) (fun _ _ _ h => h) (by rfl) ?hh3_4 (by assumption) ?_
          case hh3_4 => (intro wq hSw; (try dsimp only at hSw); go_simp; (try (with_reducible rfl)))
          go_frame
          refine wpAnyH_skipD (some 54) (i := 5) rfl rfl (by kernel_rfl) (by kernel_rfl) (by kernel_rfl) (fun _ _ _ h => h) (by rfl) (by assumption) ?_
          go_frame
          refine wpAnyH_skipD (some 55) (i := 6) rfl rfl (by kernel_rfl) (by kernel_rfl) (by kernel_rfl) (fun _ _ _ h => h) (by rfl) (by assumption) ?_
          go_frame
          refine wpAnyH_skipD (some 56) (i := 7) rfl rfl (by kernel_rfl) (by kernel_rfl) (by kernel_rfl) (fun _ _ _ h => h) (by rfl) (by assumption) ?_
          go_frame
          refine wpAnyH_skipD (some 57) (i := 8) rfl rfl (by kernel_rfl) (by kernel_rfl) (by kernel_rfl) (fun _ _ _ h => h) (by rfl) (by assumption) ?_
          go_frame
          refine wpAnyH_skipD (some 58) (i := 9) rfl rfl (by kernel_rfl) (by kernel_rfl) (by kernel_rfl) (fun _ _ _ h => h) (by rfl) (by assumption) ?_
          go_frame
          refine wpAnyH_skipD (some 59) (i := 10) rfl rfl (by kernel_rfl) (by kernel_rfl) (by kernel_rfl) (fun _ _ _ h => h) (by rfl) (by assumption) ?_
          go_frame
          refine wpAnyH_skipD (some 60) (i := 11) rfl rfl (by kernel_rfl) (by kernel_rfl) (by kernel_rfl) (fun _ _ _ h => h) (by rfl) (by assumption) ?_
          go_frame
          refine wpAnyH_skipD (some 61) (i := 12) rfl rfl (by kernel_rfl) (by kernel_rfl) (by kernel_rfl) (fun _ _ _ h => h) (by rfl) (by assumption) ?_
          go_frame
          refine wpAnyH_takeD (some 62) (i := 13) (v := ?vh3_13) rfl rfl (by kernel_rfl) (by kernel_rfl) (by kernel_rfl) (fun _ _ _ h => h) (by rfl) ?hh3_13 (by assumption) ?_
          case hh3_13 => (intro wq hSw; (try dsimp only at hSw); go_simp; (try (with_reducible rfl)))
          go_frame
          refine wpAnyH_done (by kernel_rfl) ?_ _
          refine NoPanic.normal ?_
          have HE9 : Hid (Blk w8.drew f 78 (E.flatMap evc).toArray) := HE8.out
          have xe : rowAt w8.drew q3 0 46 = some (Ev.mk a s).cells := HC8.out.drew.row 46 (Ev.size_cells _)
          have HB9 : Hid (Blk w8.drew h 79 hb) := HB8.out
          have HM9 : Hid (MapIs encK w8.drew m M) := HM8.out
          have hbw9 : Below w1.heap.size w1 w8.drew := hbw8.drew
          clear HE8 HB8 HM8 hbw8 HRows hbx
          generalize w8.drew = w9 at *
          go_wp2_with (refine wpList_store_ev rfl (.tmp 66) (.tmp 65) rfl f sn (Ev.mk a s) rfl rfl 78 E HE9.out (by rw [hE10]; exact hsn10) ?_; intro w10 hE10' hg10; have HE10 := Lib.hid hE10'; have HB10 : Hid (Blk w10 h 79 hb) := HB9.out.kept hg10 (by simp; omega); have HM10 : Hid (MapIs encK w10 m M) := HM9.out.kept hg10 (by simp; omega); have hbw10 : Below w1.heap.size w1 w10 := hbw9.grown hg10 hbw9.size (fun j hj => by injection hj with hj; subst hj; exact hf1); have ch : w10.cell? ⟨h, sn, none⟩ = some (.bool false) := (HB10.out.cell sn).trans hh0; have fh : w10.frozen? ⟨h, sn, none⟩ = false := HB10.out.frozen sn)
          have g11 : w10.grownBy (w10.setCell ⟨h, sn, none⟩ (.bool true)) (some h) := one_put (one_refl w10 h) rfl _
          go_roundw
          case rel =>
            exact ⟨k + 1, M, E.set sn ⟨a, s⟩, hb.setIfInBounds sn (.bool true), by go_num, by rw [HN.out]; omega, HD.out.first HS.out HSt.out HVd.out HFa.out HSn.out hsn10 HC.out, HM10.out.kept g11 (by simp; omega), HE10.out.kept g11 (by simp; omega), HB10.out.put sn (.bool true), hbw10.setCell hh1 _⟩
          case measure => simp [intOf]; omega
        · have hh0 := HD.out.has sn hsn10
          rw [hC] at hh0
          have he := HD.out.evs sn e hsn10 hC
          have HLs : Hid (∀ W, Calls Tryz.prog 46 #[a.vote.val, e.a.vote.val] W (BoolPost W false)) := fun W => by
            rw [← find_not_less HS.out HSt.out HVd.out HFa.out HSn.out hC]
            exact vless_any a.vote e.a.vote W
          have HC := Lib.hid hC
          clear hC
          have HRows : Hid (∀ V, Below w8.heap.size w8 V → V.cell? ⟨h, sn, none⟩ = some (.bool true) ∧ rowAt V q2 0 22 = some a.vote.cells ∧ rowAt V f (sn * 46) 22 = some e.a.vote.cells) := fun V hV =>
            ⟨((HB8.out.below hV HB8.out.lt).cell sn).trans hh0, a.row_vote (HA8.out.below hV HA8.out.lt), (HE8.out.below hV HE8.out.lt).evA he⟩
          have hbx : Below w8.heap.size w8 w8 := Below.refl _ _
          refine wp_region_noPanic ?_
          refine wp_region_held_drew (S := fun w' => w'.cell? ⟨h, sn, none⟩ = some (.bool true) ∧ rowAt w' q2 0 22 = some a.vote.cells ∧ rowAt w' f (sn * 46) 22 = some e.a.vote.cells) (by kernel_rfl) (HRows.out _ hbx.drew) (fun hHeld => ?_)
          refine wpAnyH_takeD (some 49) (i := 0) (v := ?vh4_0) rfl rfl (by kernel_rfl) (by kernel_rfl) (by kernel_rfl) (fun _ _ _ h => h) (by rfl) ?hh4_0 (by assumption) ?_
          case hh4_0 => (intro wq hSw; (try dsimp only at hSw); go_simp; (try (with_reducible rfl)))
          go_frame
          refine wpAnyH_takeD (some 50) (i := 1) (v := ?vh4_1) rfl rfl (by kernel_rfl) (by kernel_rfl) (by kernel_rfl) (fun _ _ _ h => h) (by rfl) ?hh4_1 (by assumption) ?_
          case hh4_1 => (intro wq hSw; (try dsimp only at hSw); go_simp; (try (with_reducible rfl)))
          go_frame
          refine wpAnyH_takeD (some 51) (i := 2) (v := ?vh4_2) rfl rfl (by kernel_rfl) (by kernel_rfl) (by kernel_rfl) (fun _ _ _ h => h) (by rfl) ?hh4_2 (by assumption) ?_
          case hh4_2 => (intro wq hSw; (try dsimp only at hSw); go_simp; (try (with_reducible rfl)))
          go_frame
          refine wpAnyH_takeD (some 52) (i := 3) (v := ?vh4_3) rfl rfl (by kernel_rfl) (by kernel_rfl) (by kernel_rfl) (fun _ _ _ h => h) (by rfl) ?hh4_3 (by assumption) ?_
          case hh4_3 => (intro wq hSw; (try dsimp only at hSw); go_simp; (try (with_reducible rfl)))
          go_frame
          refine wpAnyH_takeD (some 53) (i := 4) (v := ?vh4_4) rfl rfl (by kernel_rfl) (by kernel_rfl) (by kernel_rfl) (fun _ _ _ h => h) (by rfl) ?hh4_4 (by assumption) ?_
          case hh4_4 => (intro wq hSw; (try dsimp only at hSw); go_simp; (try (with_reducible rfl)))
          go_frame
          refine wpAnyH_takeD (some 54) (i := 5) (v := ?vh4_5) rfl rfl (by kernel_rfl) (by kernel_rfl) (by kernel_rfl) (fun _ _ _ h => h) (by rfl) ?hh4_5 (by assumption) ?_
          case hh4_5 => (intro wq hSw; (try dsimp only at hSw); go_simp; (try (with_reducible rfl)))
          go_frame
          refine wpAnyH_takeD (some 55) (i := 6) (v := ?vh4_6) rfl rfl (by kernel_rfl) (by kernel_rfl) (by kernel_rfl) (fun _ _ _ h => h) (by rfl) ?hh4_6 (by assumption) ?_
          case hh4_6 => (intro wq hSw; (try dsimp only at hSw); go_simp; (try (with_reducible rfl)))
          go_frame
          refine wpAnyH_takeD (some 56) (i := 7) (v := ?vh4_7) rfl rfl (by kernel_rfl) (by kernel_rfl) (by kernel_rfl) (fun _ _ _ h => h) (by rfl) ?hh4_7 (by assumption) ?_
          case hh4_7 => (intro wq hSw; (try dsimp only at hSw); go_simp; (try (with_reducible rfl)))
          go_frame
          refine wpAnyH_takeD (some 57) (i := 8) (v := ?vh4_8) rfl rfl (by kernel_rfl) (by kernel_rfl) (by kernel_rfl) (fun _ _ _ h => h) (by rfl) ?hh4_8 (by assumption) ?_
          case hh4_8 => (intro wq hSw; (try dsimp only at hSw); go_simp; (try (with_reducible rfl)))
          go_frame
          refine wpAnyH_takeD (some 58) (i := 9) (v := ?vh4_9) rfl rfl (by kernel_rfl) (by kernel_rfl) (by kernel_rfl) (fun _ _ _ h => h) (by rfl) ?hh4_9 (by assumption) ?_
          case hh4_9 => (intro wq hSw; (try dsimp only at hSw); go_simp; (try (with_reducible rfl)))
          go_frame
          refine wpAnyH_takeD (some 59) (i := 10) (v := ?vh4_10) rfl rfl (by kernel_rfl) (by kernel_rfl) (by kernel_rfl) (fun _ _ _ h => h) (by rfl) ?hh4_10 (by assumption) ?_
          case hh4_10 => (intro wq hSw; (try dsimp only at hSw); go_simp; (try (with_reducible rfl)))
          go_frame
          refine wpAnyH_takeD (some 60) (i := 11) (v := ?vh4_11) rfl rfl (by kernel_rfl) (by kernel_rfl) (by kernel_rfl) (fun _ _ _ h => h) (by rfl) ?hh4_11 (by assumption) ?_
          case hh4_11 => (intro wq hSw; (try dsimp only at hSw); go_simp; (try (with_reducible rfl)))
          go_frame
          refine wpAnyH_ready (rs := [12]) (by kernel_rfl) (by simp) ?_
          refine AllReadyH.cons rfl (fun K hK => ?_) AllReadyH.nil
          go_simp
          refine (HLs.out _).mono ?_; rintro en w9 ⟨rfl, hb9⟩; have hbx9 := hbx.drew.trans (hb9.mono (Nat.le_refl _))
          go_wp2_with fail
          refine hK.out _ _ (HRows.out _ hbx9) (fun hHeld => ?_)
          clear hK K
          try go_frame
          refine wpAnyH_takeD (some 62) (i := 13) (v := ?vh4_13) rfl rfl (by kernel_rfl) (by kernel_rfl) (by kernel_rfl) (fun _ _ _ h => h) (by rfl) ?hh4_13 (by assumption) ?_
          case hh4_13 => (intro wq hSw; (try dsimp only at hSw); go_simp; (try (with_reducible rfl)))
          go_frame
          refine wpAnyH_done (by kernel_rfl) ?_ _
          refine NoPanic.normal ?_
          go_wp2_with fail
          go_roundw
          case rel =>
            exact ⟨k + 1, M, E, hb, by go_num, by rw [HN.out]; omega, HD.out.later HS.out HFa.out HSn.out HC.out, HM8.out.below hbx9 HM8.out.lt, HE8.out.below hbx9 HE8.out.lt, HB8.out.below hbx9 HB8.out.lt, hbw8.trans (hbx9.mono hbw8.size)⟩
          case measure => simp [intOf]; omega
    · have di : decide ((k : Int) < (n : Int)) = false := by simp; omega
      obtain rfl : n = k := by omega
      have HTn : Hid (L.take n = L) := by unfold Hid; rw [← HN.out, List.take_length]
      have hev : Hid (∀ i e, i < 10 → firstC i L = some e → E[i]? = some e) := fun i e h1 h2 => HD.out.evs i e h1 (by rw [HTn.out]; exact h2)
      have hhas : Hid (∀ i, i < 10 → hb[i]? = some (.bool (firstC i L).isSome)) := fun i h1 => by
        have := HD.out.has i h1
        rwa [HTn.out] at this
      have hE10 := HD.out.len
      have HE10 := Lib.hid hE10
      have xF : rowAt wr f 0 460 = some (E.flatMap evc).toArray := HEb.out.row 460 (by rw [List.size_toArray, evc_length, hE10])
      have HIx : Hid (∀ (i : Nat) (e : Ev), E[i]? = some e → ∀ W, (Instr.index 78 (.agg (E.flatMap evc).toArray) (.int .i64 (i : Int))).run Tryz.prog W = .ok e.val W) := fun i e h W => index_ev E i e HE10.out h W
      obtain ⟨cs, hcs⟩ : ∃ cs, cs = (E.flatMap evc).toArray := ⟨_, rfl⟩
      rw [← hcs] at xF HIx
      have HW1 := Lib.hid hbw
      have HOkL : Hid (∀ x ∈ L, SgOk wr wr.heap.size x) := fun x hx => ((HOk.out x hx).1.below hbw).more hbw.size
      obtain ⟨W2, hW2⟩ : ∃ W2, W2 = wr := ⟨_, rfl⟩
      subst hW2
      have hbw2 := hb1.trans (hbw.mono hb1.size)
      clear hcs HD HM HEb hmw hbw hkn hE10
      go_wp2
      go_loopw [15, 70] (fun v iv wr => ORel L W2 v iv wr) (fun _ iv _ => 10 - (intOf iv).toNat)
      case atStart => exact ⟨0, [], rfl, Nat.zero_le _, rfl, ⟨rfl, .inl ⟨rfl, rfl⟩⟩, (fun x hx => by cases hx), Below.refl _ _⟩
      case round =>
        clear xF
        obtain ⟨i, O, rfl, hi10, hO, hown, hall, hbr⟩ := hrel
        have HO := Lib.hid hO
        have HOwn := Lib.hid hown
        have HAll := Lib.hid hall
        have hOl : O.length ≤ 10 := by
          have h1 := congrArg List.length hO
          rw [List.length_map, List.length_map] at h1
          have h2 := findF_len L i
          omega
        clear hO hown hall
        by_cases hi : i < 10
        · have di : decide ((i : Int) < 10) = true := by simp; omega
          have i0 : (0 : Int) ≤ (i : Int) := by omega
          have i1 : (i : Int) < 10 := by omega
          obtain ⟨x, hx⟩ : ∃ x, E[i]? = some x := ⟨_, List.getElem?_eq_getElem (by rw [HE10.out]; exact hi)⟩
          have hix : (Instr.index 78 (.agg cs) (.int .i64 (i : Int))).run Tryz.prog wr = .ok x.val wr := HIx.out i x hx wr
          have HX := Lib.hid hx
          clear hx
          go_upto_region 20 with (refine wpList_store_blk rfl 51 (.tmp 17) (.tmp 73) rfl wr.heap.size x.cells rfl rfl 51 zeroEc (Blk.new wr _ _) (by rw [Ev.size_cells]; rfl) (by rw [Ev.size_cells]; exact size_ev) (fun u hu => one_ev _ hu) ?_; intro w4 hB4 hg4 hsz4)
          have hb4 : Below wr.heap.size wr w4 := ((Below.refl _ wr).alloc (Nat.le_refl _) _).grown hg4 (by simp) (by rintro j ⟨⟩; omega)
          have hbr4 := hbr.trans (hb4.mono hbr.size)
          have HOwn4 := Lib.hid (own_below HOwn.out hb4 (Nat.le_refl _))
          have HAll4 : Hid (∀ y ∈ O, EvOwn w4 W2.heap.size y) := fun y hy => (HAll.out y hy).below hb4 (Nat.le_refl _)
          have HQ4 := Lib.hid hB4
          obtain ⟨q, hq⟩ : ∃ q, q = wr.heap.size := ⟨_, rfl⟩
          have HLt : Hid (∀ k, u15.ownBlock = some k → k < q) := fun k hk => by rw [hq]; exact (HOwn.out.lt k hk).2
          rw [← hq] at HQ4 ⊢
          have ch : w4.cell? ⟨h, i, none⟩ = some (.bool (firstC i L).isSome) := by
            have h1 := (HBb.out.below hbr4 hhw).cell i
            rw [h1]
            exact hhas.out i hi
          clear hB4 hg4 hsz4 hix hb4 HOwn HAll hbr hq
          go_frame
          rcases hF : firstC i L with _ | e
          · have HF := Lib.hid hF
            rw [hF] at ch
            simp only [Option.isSome_none] at ch
            clear hF
            go_wp2
            go_roundw
            case rel =>
              refine ⟨i + 1, O, by go_num, by omega, ?_, HOwn4.out, HAll4.out, hbr4⟩
              rw [findF_succ, HF.out, HO.out]
              simp
            case measure => simp [intOf]; omega
          · have hxe : x = e := by
              have h1 := hev.out i e hi hF
              rw [HX.out] at h1
              exact Option.some.inj h1
            subst hxe
            have hxm := firstC_mem hF
            have HF := Lib.hid hF
            rw [hF] at ch
            simp only [Option.isSome_some] at ch
            have HKa := Lib.hid (HOkL.out x.a hxm.1)
            have HKb := Lib.hid (HOkL.out x.b hxm.2)
            clear hF hxm
            have HRows : Hid (∀ V, Below w4.heap.size w4 V → rowAt V q 0 23 = some x.a.cells ∧ rowAt V q 23 23 = some x.b.cells) := fun V hV => ⟨x.row_a (HQ4.out.below hV HQ4.out.lt), x.row_b (HQ4.out.below hV HQ4.out.lt)⟩
            have HCp : Hid (∀ (s : Sg) (V : World), SgOk W2 W2.heap.size s → Below W2.heap.size W2 V → Calls Tryz.prog 47 #[s.val] V (CopyPost V s)) := fun s V hs hV => copied_any s V ((hs.below hV).more hV.size)
            have hbx : Below w4.heap.size w4 w4 := Below.refl _ _
            go_upto_region 21 with fail
            refine wp_region_noPanic ?_
            refine wp_region_held_drew (S := fun w' => rowAt w' q 0 23 = some x.a.cells ∧ rowAt w' q 23 23 = some x.b.cells) (by kernel_rfl) (HRows.out _ hbx.drew) (fun hHeld => ?_)
            refine wpAnyH_takeD (some 77) (i := 0) (v := ?vh5_0) rfl rfl (by kernel_rfl) (by kernel_rfl) (by kernel_rfl) (fun _ _ _ h => h) (by rfl) ?hh5_0 (by assumption) ?_
            case hh5_0 => (intro wq hSw; (try dsimp only at hSw); go_simp; (try (with_reducible rfl)))
            go_frame
            refine wpAnyH_takeD (some 78) (i := 1) (v := ?vh5_1) rfl rfl (by kernel_rfl) (by kernel_rfl) (by kernel_rfl) (fun _ _ _ h => h) (by rfl) ?hh5_1 (by assumption) ?_
            case hh5_1 => (intro wq hSw; (try dsimp only at hSw); go_simp; (try (with_reducible rfl)))
            go_frame
            refine wpAnyH_takeD (some 79) (i := 2) (v := ?vh5_2) rfl rfl (by kernel_rfl) (by kernel_rfl) (by kernel_rfl) (fun _ _ _ h => h) (by rfl) ?hh5_2 (by assumption) ?_
            case hh5_2 => (intro wq hSw; (try dsimp only at hSw); go_simp; (try (with_reducible rfl)))
            go_frame
            refine wpAnyH_takeD (some 81) (i := 4) (v := ?vh5_4) rfl rfl (by kernel_rfl) (by kernel_rfl) (by kernel_rfl) (fun _ _ _ h => h) (by rfl) ?hh5_4 (by assumption) ?_
            case hh5_4 => (intro wq hSw; (try dsimp only at hSw); go_simp; (try (with_reducible rfl)))
            go_frame
            refine wpAnyH_takeD (some 82) (i := 5) (v := ?vh5_5) rfl rfl (by kernel_rfl) (by kernel_rfl) (by kernel_rfl) (fun _ _ _ h => h) (by rfl) ?hh5_5 (by assumption) ?_
            case hh5_5 => (intro wq hSw; (try dsimp only at hSw); go_simp; (try (with_reducible rfl)))
            go_frame
            refine wpAnyH_ready (rs := [3]) (by kernel_rfl) (by simp) ?_
            refine AllReadyH.cons rfl (fun K hK => ?_) AllReadyH.nil
            go_simp
            refine (HCp.out x.a _ HKa.out hbr4.drew).mono ?_; rintro en w5 ⟨A5, c5, rfl, hown5, hb5⟩; have hbx5 := hbx.drew.trans (hb5.mono (Nat.le_refl _)); have hbr5 := hbr4.trans (hbx5.mono hbr4.size); have HN5 := Lib.hid (hown5.base hbr4.size); have HOwn5 := Lib.hid (own_below HOwn4.out hbx5 (Nat.le_refl _)); have HAll5 : Hid (∀ y ∈ O, EvOwn w5 W2.heap.size y) := (fun y hy => (HAll4.out y hy).below hbx5 (Nat.le_refl _)); clear hown5
            go_wp2_with fail
            refine hK.out _ _ (HRows.out _ hbx5) (fun hHeld => ?_)
            clear hK K
            try go_frame
            refine wpAnyH_ready (rs := [6]) (by kernel_rfl) (by simp) ?_
            refine AllReadyH.cons rfl (fun K hK => ?_) AllReadyH.nil
            go_simp
            refine (HCp.out x.b _ HKb.out hbr5).mono ?_; rintro en w6 ⟨A6, c6, rfl, hown6, hb6⟩; have hbx6 := hbx5.trans (hb6.mono hbx5.size); have hbr6 := hbr5.trans (hb6.mono hbr5.size); have HN6a : Hid (SgOwn w6 W2.heap.size (Sg.mk x.a.vote x.a.sig A5 c5)) := HN5.out.below hb6 (Nat.le_refl _); have HN6 := Lib.hid (hown6.base hbr5.size); have HOwn6 := Lib.hid (own_below HOwn5.out hb6 (Nat.le_refl _)); have HAll6 : Hid (∀ y ∈ O, EvOwn w6 W2.heap.size y) := (fun y hy => (HAll5.out y hy).below hb6 (Nat.le_refl _)); clear hown6
            go_wp2_with fail
            refine hK.out _ _ (HRows.out _ hbx6) (fun hHeld => ?_)
            clear hK K
            try go_frame
            refine wpAnyH_takeD (some 84) (i := 7) (v := (Ev.mk (Sg.mk x.a.vote x.a.sig A5 c5) (Sg.mk x.b.vote x.b.sig A6 c6)).val) rfl rfl (by kernel_rfl) (by kernel_rfl) (by kernel_rfl) (fun _ _ _ h => h) (by rfl) (fun wq _ => run_buildEv (Sg.mk x.a.vote x.a.sig A5 c5) (Sg.mk x.b.vote x.b.sig A6 c6) (.tmp 80) (.tmp 83) rfl rfl rfl wq) (by assumption) ?_
            go_frame
            refine wpAnyH_ready (rs := [8]) (by kernel_rfl) (by simp) ?_
            refine AllReadyH.cons rfl (fun K hK => ?_) AllReadyH.nil
            rw [if_pos (by rfl)]
            refine wp_build1 (some 85) (by rfl) 36 51 (.tmp 84) (by rfl) (Ev.mk (Sg.mk x.a.vote x.a.sig A5 c5) (Sg.mk x.b.vote x.b.sig A6 c6)).cells (by rfl) Tryz.underlying36 (by rw [Ev.size_cells]; kernel_rfl) (by rw [Ev.size_cells]; omega) (by rw [Ev.size_cells]; omega) ?_
            refine hK.out _ _ (HRows.out _ (hbx6.alloc hbx6.size _)) (fun hHeld => ?_)
            clear hK K
            try go_frame
            refine wpAnyH_ready (rs := [9]) (by kernel_rfl) (by simp) ?_
            refine AllReadyH.cons rfl (fun K hK => ?_) AllReadyH.nil
            rw [if_pos (by rfl)]
            refine wp_appD (some 86) (by rfl) (.tmp 77) (.tmp 85) _ (by rfl) W2.heap.size 51 (.agg zeroEc) 46 176 Tryz.underlying36 info_ev rfl (by decide) u15 O.length (O.flatMap evc) (by rfl) (HOwn6.out.alloc _) (w6.heap.size + 1) (some ⟨w6.heap.size, 0, none⟩) 1 1 (evc (Ev.mk (Sg.mk x.a.vote x.a.sig A5 c5) (Sg.mk x.b.vote x.b.sig A6 c6))) (by rfl) (by rw [Array.length_toList, Ev.size_cells]) (Rd.mk (by omega) (fun k u hu => by rw [Nat.zero_add, (Blk.new w6 _ _).cell]; simpa using hu)) (fun u hu => one_ev _ hu) (by omega) (by unfold maxLen; omega) (Nat.le_trans hbr6.size (by simp)) ?_; intro v7 w7 hown7 hg7 hat7; have hbr7 : Below W2.heap.size W2 w7 := below_own (hbr6.alloc hbr6.size _) (HOwn6.out.alloc _) hg7; have HOwn7 := Lib.hid hown7; have HAll7 : Hid (∀ y ∈ O, EvOwn w7 W2.heap.size y) := (fun y hy => ((HAll6.out y hy).alloc _).farE (HOwn6.out.alloc _) hg7); have HNw7 : Hid (EvOwn w7 W2.heap.size (Ev.mk (Sg.mk x.a.vote x.a.sig A5 c5) (Sg.mk x.b.vote x.b.sig A6 c6))) := ⟨(HN6a.out.alloc _).farE (HOwn6.out.alloc _) hg7, (HN6.out.alloc _).farE (HOwn6.out.alloc _) hg7⟩; have hq7 : Hid (rowAt w7 q 0 23 = some x.a.cells ∧ rowAt w7 q 23 23 = some x.b.cells) := (by have hb7 := ((HQ4.out.below hbx6 HQ4.out.lt).alloc (.cells (Ev.mk (Sg.mk x.a.vote x.a.sig A5 c5) (Sg.mk x.b.vote x.b.sig A6 c6)).cells 51)).kept hg7 (fun e => by have := HLt.out q e.symm; omega); exact ⟨x.row_a hb7, x.row_b hb7⟩); clear hown7 hg7 hat7
            refine hK.out _ _ (hq7.out) (fun hHeld => ?_)
            clear hK K
            try go_frame
            refine wpAnyH_takeD (some 15) (i := 10) (v := ?vh5_10) rfl rfl (by kernel_rfl) (by kernel_rfl) (by kernel_rfl) (fun _ _ _ h => h) (by rfl) ?hh5_10 (by assumption) ?_
            case hh5_10 => (intro wq hSw; (try dsimp only at hSw); go_simp; (try (with_reducible rfl)))
            go_frame
            refine wpAnyH_done (by kernel_rfl) ?_ _
            refine NoPanic.normal ?_
            go_wp2_with fail
            go_roundw
            case rel =>
              refine ⟨i + 1, O ++ [Ev.mk (Sg.mk x.a.vote x.a.sig A5 c5) (Sg.mk x.b.vote x.b.sig A6 c6)], by go_num, by omega, ?_, ?_, ?_, hbr7⟩
              · rw [findF_succ, HF.out, List.map_append, List.map_append, HO.out]; rfl
              · have h := HOwn7.out
                rw [List.length_append, List.flatMap_append]
                simpa using h
              · intro y hy
                rcases List.mem_append.1 hy with hy | hy
                · exact HAll7.out y hy
                · rw [List.mem_singleton.1 hy]; exact HNw7.out
            case measure => simp [intOf]; omega
        · have di : decide ((i : Int) < 10) = false := by simp; omega
          obtain rfl : i = 10 := by omega
          go_wp2
          go_ret
          refine ⟨O, _, rfl, hbw2.trans (hbr.mono hbw2.size), own_base HOwn.out hbw2.size, fun x hx => ⟨(HAll.out x hx).1.ok, (HAll.out x hx).2.ok⟩, ?_⟩
          rw [HO.out, ← findS_map, HE.out]
end Go.Proofs.YthmecidpjlaonaaGreat
namespace Go.Proofs.YthmecidpjlaonaaGreat
open Go.RowKit
attribute [local go_sem ↓] Go.wp_at_zero Go.wp_at_succ loadNm loadVt loadSg loadEv
attribute [local go_sem] runNm runVt runSg runEv pickRow_some rowAt_drew rowAt_drewN
/-- Pair k of a row that is read. -/
theorem Rd.evRow {w : World} {B' b o : Nat} {l : List Ev} {k : Nat} {e : Ev} (h : Rd w B' (some ⟨b, o, none⟩) (l.flatMap evc)) (hk : l[k]? = some e) : rowAt w b (o + k * 46) 46 = some e.cells := by
  have hpos := (List.getElem?_eq_some_iff.1 hk).1
  rcases h with h | ⟨b', o', he, hb, hc⟩
  · have := evc_length l
    rw [h] at this
    simp at this; omega
  · injection he with he
    injection he with e1 e2
    subst e1; subst e2
    refine rowAt_of (fun j u hu => ?_) e.size_cells
    have hj : j < 46 := by
      have := (List.getElem?_eq_some_iff.1 hu).1
      rwa [Array.length_toList, e.size_cells] at this
    rw [Nat.add_assoc]
    refine hc _ u ?_
    rw [flat_get evc 46 l (evc_len l) k j e hk hj, ← hu]
theorem own_evs {w : World} {b n : Nat} {v : Value} {L : List Ev} (h : w.ownsRow b 51 46 v n (L.flatMap evc)) (hn : n = L.length) : ∃ A c, v = .slice A L.length c ∧ Rd w w.heap.size A (L.flatMap evc) ∧ L.length ≤ c ∧ c ≤ maxLen := by
  subst hn
  rcases h.2 with ⟨hv, h0⟩ | ⟨g, cap, cur, hv, _, _, h1, h2, _⟩
  · subst hv
    have hL : L = [] := List.eq_nil_of_length_eq_zero h0
    subst hL
    exact ⟨none, 0, rfl, Rd.nil, Nat.le_refl _, by unfold maxLen; omega⟩
  · subst hv
    exact ⟨_, cap, rfl, Rd.of_own h, h1, h2⟩
theorem maskS_lt {l : List ES} (h : ∀ e ∈ l, e.1.1.signer.toNat < 10) : maskS l < 1024 := by
  refine Nat.lt_of_not_le fun hh => ?_
  obtain ⟨i, hi, hb⟩ := Nat.exists_ge_and_testBit_of_ge_two_pow (n := 10) hh
  obtain ⟨e, he, h2⟩ := (maskS_bit i l).1 hb
  have := h e he
  omega
def GRel (E : List Ev) (w1 : World) (mv iv : Value) (wr : World) : Prop :=
  ∃ i : Nat, iv = .int .i64 (i : Int) ∧ i ≤ E.length ∧ mv = .int .i64 ((maskS ((E.take i).map Ev.vs) : Nat) : Int) ∧ Below w1.heap.size w1 wr

set_option maxRecDepth 100000 in
set_option maxHeartbeats 4000000 in
theorem glt_any (K A : Option Addr) (nk ck n0 c : Nat) (keys : List Nm) (l : List Sg) (w : World) (hnk : keys.length = nk) (hn : l.length = n0) (hK : Rd w w.heap.size K (keys.flatMap nmc)) (hr : Rd w w.heap.size A (l.flatMap sgc))
    (hok : SgsOk w w.heap.size l) (hsmall : n0 ≤ 1000000) : Calls Tryz.prog 15 #[.slice K nk ck, .slice A n0 c] w (IntPost w ((gltF keys (l.map Sg.vs) : Nat) : Int)) := by
  have HF := Lib.hid (pfind_any K A nk ck n0 c keys l w hnk hn hK hr hok hsmall)
  obtain ⟨cl, hcl⟩ : ∃ cl, cl = findS (cvS keys (l.map Sg.vs)) 10 := ⟨_, rfl⟩
  have hg : gltF keys (l.map Sg.vs) = maskS cl := by rw [hcl]; rfl
  have hs : ∀ e ∈ cl, ∃ s : Nat, s < 10 ∧ e.1.1.signer = (s : Int) := fun e he => by
    rw [hcl] at he
    obtain ⟨s, h1, h2⟩ := findS_mem.1 he
    exact ⟨s, h1, (firstS_some h2).2.2.1⟩
  have hcl10 : cl.length ≤ 10 := by
    rw [hcl]
    have := List.length_filterMap_le (fun s => firstS s (cvS keys (l.map Sg.vs))) (List.range 10)
    rw [List.length_range] at this
    exact this
  rw [← hcl] at HF
  rw [hg]
  have HS := Lib.hid hs
  clear hcl hg hs hnk hn hK hr hok
  go_enter Tryz.func15, Tryz.ntmps15
  go_upto_region 3 with (go_at_call 13; refine HF.out.mono ?_; rintro en w1 ⟨E, v, rfl, hb1, hown, hok, he⟩; obtain ⟨A2, c2, hv, hr2, _, _⟩ := own_evs hown rfl; subst hv)
  obtain ⟨n, hnE⟩ : ∃ n, n = E.length := ⟨_, rfl⟩
  rw [← hnE]
  have HN : Hid (E.length = n) := hnE.symm
  have HR := Lib.hid hr2
  have HE := Lib.hid he
  have hn10 : n ≤ 1000000 := by
    have h1 := congrArg List.length he
    rw [List.length_map] at h1
    omega
  clear hown hok he hr2 hnE HF
  go_wp2
  go_loopw [5, 12] (fun mv iv wr => GRel E w1 mv iv wr) (fun _ iv _ => n - (intOf iv).toNat)
  case atStart => exact ⟨0, rfl, Nat.zero_le _, rfl, Below.refl _ _⟩
  case round =>
    obtain ⟨i, rfl, hin, rfl, hbw⟩ := hrel
    rw [HN.out] at hin
    obtain ⟨m, hm⟩ : ∃ m, m = maskS ((E.take i).map Ev.vs) := ⟨_, rfl⟩
    rw [← hm]
    have HM := Lib.hid hm
    have hml : m < 1024 := by
      rw [hm]
      refine maskS_lt fun e he => ?_
      rw [List.map_take] at he
      obtain ⟨s, h1, h2⟩ := HS.out e (by rw [← HE.out]; exact List.mem_of_mem_take he)
      omega
    clear hm
    by_cases hi : i < n
    · have di : decide ((i : Int) < (n : Int)) = true := by simp; omega
      obtain ⟨x, hx⟩ : ∃ x, E[i]? = some x := ⟨_, List.getElem?_eq_getElem (by rw [HN.out]; exact hi)⟩
      obtain ⟨b, o, rfl, hb, hcell⟩ := HR.out.cells (by intro e; have := evc_length E; rw [e, HN.out] at this; simp at this; omega)
      clear hcell
      have x1 : rowAt wr b (o + i * 46) 46 = some x.cells := (HR.out.below hbw).evRow hx
      obtain ⟨sn, hsn9, hsn⟩ := HS.out x.vs (by rw [← HE.out]; exact List.mem_map_of_mem (List.mem_of_getElem? hx))
      have HSn : Hid (x.a.vote.signer = (sn : Int)) := hsn
      have HX := Lib.hid hx
      clear hx hsn
      go_upto_region 5 with (refine wpList_store_blk rfl 51 (.tmp 7) (.tmp 15) rfl wr.heap.size x.cells rfl rfl 51 zeroEc (Blk.new wr _ _) (by rw [Ev.size_cells]; rfl) (by rw [Ev.size_cells]; exact size_ev) (fun u hu => one_ev _ hu) ?_; intro w4 hB4 hg4 hsz4)
      have hbw4 : Below w1.heap.size w1 w4 := (hbw.alloc hbw.size _).grown hg4 (Nat.le_trans hbw.size (by simp)) (fun j hj => by injection hj with hj; subst hj; exact hbw.size)
      obtain ⟨q, hq⟩ : ∃ q, q = wr.heap.size := ⟨_, rfl⟩
      rw [← hq] at hB4 ⊢
      have c4 : w4.cell? ⟨q, 4, none⟩ = some (.int .i64 (sn : Int)) := by rw [← HSn.out]; exact (hB4.cell 4).trans x.cell_signer
      have hsh := fun W => shl_one sn (by omega) W
      clear hB4 hg4 hsz4 x1 hq hbw
      try go_frame
      go_wp2
      go_roundw
      case rel =>
        refine ⟨i + 1, by go_num, by rw [HN.out]; omega, ?_, hbw4⟩
        have e1 : maskS ((E.take (i + 1)).map Ev.vs) = m ||| 2 ^ sn := by
          rw [List.take_add_one, HX.out, List.map_append, maskS_append, ← HM.out]
          show m ||| (2 ^ x.a.vote.signer.toNat ||| 0) = _
          rw [HSn.out, Int.toNat_natCast, Nat.or_zero]
        rw [e1]
        exact or_pow m sn hml (by omega)
      case measure => simp [intOf]; omega
    · obtain rfl : n = i := by omega
      have di : decide ((n : Int) < (n : Int)) = false := by simp
      go_wp2
      go_ret
      refine ⟨?_, hb1.trans (hbw.mono hb1.size)⟩
      rw [HM.out, List.take_of_length_le (by rw [HN.out]; exact Nat.le_refl _), HE.out]
      rfl

end Go.Proofs.YthmecidpjlaonaaGreat
