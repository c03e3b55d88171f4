/-
  The reference's verify and ValidEvidence return true where a pair is valid evidence, and its Bit the set of one; all change nothing that was there. Condition: keys and pair lie in memory below the call.
  The law CheckerExhibits returns true and changes nothing that was there. Condition: keys and proof lie in memory below the call.
-/
import Derived.Test.YthmecidpjlaonaaGCheck
namespace Go.Proofs.Ythmecidpjlaonaa
open Go.RowKit
attribute [local go_sem ↓] Go.wp_at_zero Go.wp_at_succ loadNm loadVt loadSg loadEv
attribute [local go_sem] runNm runVt runSg runEv pickRow_some rowAt_drew rowAt_drewN

set_option maxRecDepth 100000 in
set_option maxHeartbeats 4000000 in
theorem verify_yes (K : Option Addr) (n ck : Nat) (s : Sg) (w : World) (sn : Nat) (hsn : s.vote.signer = (sn : Int)) (b o : Nat) (hK : K = some ⟨b, o, none⟩) (key : Nm) (hk : sn < n) (hkey : ∀ W, Below w.heap.size w W → rowAt W b (o + sn * 8) 8 = some key.cells)
    (hv1 : ∀ W, Below w.heap.size w W → Calls Try.prog 95 #[key.val, s.val] W (BoolPost W true)) :
    Calls Try.prog 65 #[.slice K n ck, s.val] w (BoolPost w true) := by
  subst hK
  have HS := Lib.hid hsn; clear hsn
  have HK := Lib.hid hkey; clear hkey
  have HV1 := Lib.hid hv1; clear hv1
  have i1 : (0 : Int) ≤ (sn : Int) := by omega
  have i2 : (sn : Int) < (n : Int) := by omega
  have d1 : decide ((0 : Int) ≤ (sn : Int)) = true := by simp
  have d2 : decide (sn < n) = true := by simp; omega
  have hE : Blk (w.alloc (Obj.cells s.cells 43)) w.heap.size 43 s.cells := Blk.new w _ _
  have hbW : Below w.heap.size w (w.alloc (Obj.cells s.cells 43)) := (Below.refl _ _).alloc (Nat.le_refl _) _
  go_enter Try.func65, Try.ntmps65
  go_wp2
  generalize (w.alloc (Obj.cells s.cells 43)) = W at *
  have c4 : ∀ W', Blk W' w.heap.size 43 s.cells → W'.cell? ⟨w.heap.size, 4, none⟩ = some (.int .i64 (sn : Int)) := fun W' h => by rw [← HS.out]; exact (h.cell 4).trans (s.cell_vote 4 _ rfl)
  have H4 := Lib.hid c4; clear c4
  refine wp_region_noPanic ?_
  refine wp_region_held_drew (S := fun w' => w'.cell? ⟨w.heap.size, 4, none⟩ = some (.int .i64 (sn : Int)) ∧ rowAt w' b (o + sn * 8) 8 = some key.cells ∧ rowAt w' w.heap.size 0 23 = some s.cells) (by kernel_rfl) (⟨H4.out _ hE.drew, HK.out _ hbW.drew, hE.drew.row 23 (Sg.size_cells _)⟩) (fun hHeld => ?_)
  refine wpAnyH_takeD (some 5) (i := 0) (v := ?vh0) rfl rfl (by kernel_rfl) (by kernel_rfl) (by kernel_rfl) (fun _ _ _ h => h) (by rfl) ?hh0 (by assumption) ?_
  case hh0 => (intro wq hSw; (try dsimp only at hSw); go_simp; (try (with_reducible rfl)))
  go_frame
  refine wpAnyH_takeD (some 6) (i := 1) (v := ?vh1) rfl rfl (by kernel_rfl) (by kernel_rfl) (by kernel_rfl) (fun _ _ _ h => h) (by rfl) ?hh1 (by assumption) ?_
  case hh1 => (intro wq hSw; (try dsimp only at hSw); go_simp; (try (with_reducible rfl)))
  go_frame
  refine wpAnyH_takeD (some 7) (i := 2) (v := ?vh2) rfl rfl (by kernel_rfl) (by kernel_rfl) (by kernel_rfl) (fun _ _ _ h => h) (by rfl) ?hh2 (by assumption) ?_
  case hh2 => (intro wq hSw; (try dsimp only at hSw); go_simp; (try (with_reducible rfl)))
  go_frame
  refine wpAnyH_takeD (some 8) (i := 3) (v := ?vh3) rfl rfl (by kernel_rfl) (by kernel_rfl) (by kernel_rfl) (fun _ _ _ h => h) (by rfl) ?hh3 (by assumption) ?_
  case hh3 => (intro wq hSw; (try dsimp only at hSw); go_simp; (try (with_reducible rfl)))
  go_frame
  refine wpAnyH_takeD (some 9) (i := 4) (v := ?vh4) rfl rfl (by kernel_rfl) (by kernel_rfl) (by kernel_rfl) (fun _ _ _ h => h) (by rfl) ?hh4 (by assumption) ?_
  case hh4 => (intro wq hSw; (try dsimp only at hSw); go_simp; (try (with_reducible rfl)))
  go_frame
  refine wpAnyH_takeD (some 10) (i := 5) (v := ?vh5) rfl rfl (by kernel_rfl) (by kernel_rfl) (by kernel_rfl) (fun _ _ _ h => h) (by rfl) ?hh5 (by assumption) ?_
  case hh5 => (intro wq hSw; (try dsimp only at hSw); go_simp; (try (with_reducible rfl)))
  go_frame
  refine wpAnyH_takeD (some 11) (i := 6) (v := ?vh6) rfl rfl (by kernel_rfl) (by kernel_rfl) (by kernel_rfl) (fun _ _ _ h => h) (by rfl) ?hh6 (by assumption) ?_
  case hh6 => (intro wq hSw; (try dsimp only at hSw); go_simp; (try (with_reducible rfl)))
  go_frame
  refine wpAnyH_takeD (some 12) (i := 7) (v := ?vh7) rfl rfl (by kernel_rfl) (by kernel_rfl) (by kernel_rfl) (fun _ _ _ h => h) (by rfl) ?hh7 (by assumption) ?_
  case hh7 => (intro wq hSw; (try dsimp only at hSw); go_simp; (try (with_reducible rfl)))
  go_frame
  refine wpAnyH_takeD (some 13) (i := 8) (v := ?vh8) rfl rfl (by kernel_rfl) (by kernel_rfl) (by kernel_rfl) (fun _ _ _ h => h) (by rfl) ?hh8 (by assumption) ?_
  case hh8 => (intro wq hSw; (try dsimp only at hSw); go_simp; (try (with_reducible rfl)))
  go_frame
  refine wpAnyH_takeD (some 14) (i := 9) (v := ?vh9) rfl rfl (by kernel_rfl) (by kernel_rfl) (by kernel_rfl) (fun _ _ _ h => h) (by rfl) ?hh9 (by assumption) ?_
  case hh9 => (intro wq hSw; (try dsimp only at hSw); go_simp; (try (with_reducible rfl)))
  go_frame
  refine wpAnyH_takeD (some 15) (i := 10) (v := ?vh10) rfl rfl (by kernel_rfl) (by kernel_rfl) (by kernel_rfl) (fun _ _ _ h => h) (by rfl) ?hh10 (by assumption) ?_
  case hh10 => (intro wq hSw; (try dsimp only at hSw); go_simp; (try (with_reducible rfl)))
  go_frame
  refine wpAnyH_takeD (some 16) (i := 11) (v := ?vh11) rfl rfl (by kernel_rfl) (by kernel_rfl) (by kernel_rfl) (fun _ _ _ h => h) (by rfl) ?hh11 (by assumption) ?_
  case hh11 => (intro wq hSw; (try dsimp only at hSw); go_simp; (try (with_reducible rfl)))
  go_frame
  refine wpAnyH_takeD (some 17) (i := 12) (v := ?vh12) rfl rfl (by kernel_rfl) (by kernel_rfl) (by kernel_rfl) (fun _ _ _ h => h) (by rfl) ?hh12 (by assumption) ?_
  case hh12 => (intro wq hSw; (try dsimp only at hSw); go_simp; (try (with_reducible rfl)))
  go_frame
  refine wpAnyH_takeD (some 18) (i := 13) (v := ?vh13) rfl rfl (by kernel_rfl) (by kernel_rfl) (by kernel_rfl) (fun _ _ _ h => h) (by rfl) ?hh13 (by assumption) ?_
  case hh13 => (intro wq hSw; (try dsimp only at hSw); go_simp; (try (with_reducible rfl)))
  go_frame
  refine wpAnyH_takeD (some 19) (i := 14) (v := ?vh14) rfl rfl (by kernel_rfl) (by kernel_rfl) (by kernel_rfl) (fun _ _ _ h => h) (by rfl) ?hh14 (by assumption) ?_
  case hh14 => (intro wq hSw; (try dsimp only at hSw); go_simp; (try (with_reducible rfl)))
  go_frame
  refine wpAnyH_takeD (some 20) (i := 15) (v := ?vh15) rfl rfl (by kernel_rfl) (by kernel_rfl) (by kernel_rfl) (fun _ _ _ h => h) (by rfl) ?hh15 (by assumption) ?_
  case hh15 => (intro wq hSw; (try dsimp only at hSw); go_simp; (try (with_reducible rfl)))
  go_frame
  refine wpAnyH_takeD (some 21) (i := 16) (v := ?vh16) rfl rfl (by kernel_rfl) (by kernel_rfl) (by kernel_rfl) (fun _ _ _ h => h) (by rfl) ?hh16 (by assumption) ?_
  case hh16 => (intro wq hSw; (try dsimp only at hSw); go_simp; (try (with_reducible rfl)))
  go_frame
  refine wpAnyH_takeD (some 22) (i := 17) (v := ?vh17) rfl rfl (by kernel_rfl) (by kernel_rfl) (by kernel_rfl) (fun _ _ _ h => h) (by rfl) ?hh17 (by assumption) ?_
  case hh17 => (intro wq hSw; (try dsimp only at hSw); go_simp; (try (with_reducible rfl)))
  go_frame
  refine wpAnyH_takeD (some 23) (i := 18) (v := ?vh18) rfl rfl (by kernel_rfl) (by kernel_rfl) (by kernel_rfl) (fun _ _ _ h => h) (by rfl) ?hh18 (by assumption) ?_
  case hh18 => (intro wq hSw; (try dsimp only at hSw); go_simp; (try (with_reducible rfl)))
  go_frame
  refine wpAnyH_takeD (some 24) (i := 19) (v := ?vh19) rfl rfl (by kernel_rfl) (by kernel_rfl) (by kernel_rfl) (fun _ _ _ h => h) (by rfl) ?hh19 (by assumption) ?_
  case hh19 => (intro wq hSw; (try dsimp only at hSw); go_simp; (try (with_reducible rfl)))
  go_frame
  refine wpAnyH_ready (rs := [20]) (by kernel_rfl) (by simp) ?_
  refine AllReadyH.cons rfl (fun K hK => ?_) AllReadyH.nil
  go_simp
  refine (HV1.out _ hbW.drew).mono ?_; rintro en w4 ⟨rfl, hb4⟩; have hE4 := hE.drew.below hb4 hE.lt; have hbw4 := hbW.trans (((Below.refl _ _).drew.trans hb4).mono hbW.size)
  go_wp2_with fail
  refine hK.out _ _ (⟨H4.out _ hE4, HK.out _ hbw4, hE4.row 23 (Sg.size_cells _)⟩) (fun hHeld => ?_)
  clear hK K
  try go_frame
  refine wpAnyH_takeD (some 26) (i := 21) (v := ?vh21) rfl rfl (by kernel_rfl) (by kernel_rfl) (by kernel_rfl) (fun _ _ _ h => h) (by rfl) ?hh21 (by assumption) ?_
  case hh21 => (intro wq hSw; (try dsimp only at hSw); go_simp; (try (with_reducible rfl)))
  go_frame
  refine wpAnyH_takeD (some 4) (i := 22) (v := ?vh22) rfl rfl (by kernel_rfl) (by kernel_rfl) (by kernel_rfl) (fun _ _ _ h => h) (by rfl) ?hh22 (by assumption) ?_
  case hh22 => (intro wq hSw; (try dsimp only at hSw); go_simp; (try (with_reducible rfl)))
  go_frame
  refine wpAnyH_done (by kernel_rfl) ?_ _
  refine NoPanic.normal ?_
  go_wp2
  go_ret
  exact ⟨rfl, hbw4⟩

set_option maxRecDepth 100000 in
set_option maxHeartbeats 4000000 in
theorem validev_yes (K : Option Addr) (n ck : Nat) (e : Ev) (w : World) (hconf : ∀ W, Calls Try.prog 29 #[e.a.vote.val, e.b.vote.val] W (BoolPost W true)) (hless : ∀ W, Calls Try.prog 64 #[e.a.vote.val, e.b.vote.val] W (BoolPost W true))
    (hva : ∀ W, Below w.heap.size w W → Calls Try.prog 65 #[.slice K n ck, e.a.val] W (BoolPost W true)) (hvb : ∀ W, Below w.heap.size w W → Calls Try.prog 65 #[.slice K n ck, e.b.val] W (BoolPost W true)) :
    Calls Try.prog 27 #[.slice K n ck, e.val] w (BoolPost w true) := by
  have HC := Lib.hid hconf; clear hconf
  have HL := Lib.hid hless; clear hless
  have HA := Lib.hid hva; clear hva
  have HB := Lib.hid hvb; clear hvb
  have hE : Blk (w.alloc (Obj.cells e.cells 45)) w.heap.size 45 e.cells := Blk.new w _ _
  have hbW : Below w.heap.size w (w.alloc (Obj.cells e.cells 45)) := (Below.refl _ _).alloc (Nat.le_refl _) _
  have x0 := e.row_va hE
  have y0 := e.row_vb hE
  go_enter Try.func27, Try.ntmps27
  go_wp2_with (first
    | (go_at_call 29; refine (HC.out _).mono ?_; rintro en w2 ⟨rfl, hb2⟩; have hE2 := hE.below hb2 hE.lt; have x2 := e.row_va hE2; have y2 := e.row_vb hE2; have hbw2 := hbW.trans (hb2.mono hbW.size))
    | (go_at_call 64; refine (HL.out _).mono ?_; rintro en w3 ⟨rfl, hb3⟩; have hE3 := hE2.below hb3 hE2.lt; have x3 := e.row_a hE3; have hbw3 := hbw2.trans (hb3.mono hbw2.size))
    | (go_at_call 65; (with_reducible refine (HA.out _ hbw3).mono ?_); rintro en w4 ⟨rfl, hb4⟩; have hE4 := hE3.below hb4 hE3.lt; have x4 := e.row_b hE4; have hbw4 := hbw3.trans (hb4.mono hbw3.size))
    | (go_at_call 65; (with_reducible refine (HB.out _ hbw4).mono ?_); rintro en w5 ⟨rfl, hb5⟩; have hbw5 := hbw4.trans (hb5.mono hbw4.size)))
  go_ret
  exact ⟨rfl, hbw5⟩

set_option maxRecDepth 100000 in
theorem bit_any (sn : Nat) (w : World) (hs : sn ≤ 9) : Calls Try.prog 28 #[.int .i64 (sn : Int)] w fun e w' => e = .returned (.int .i64 ((2 ^ sn : Nat) : Int)) ∧ w' = w := by
  rcases (by omega : sn = 0 ∨ sn = 1 ∨ sn = 2 ∨ sn = 3 ∨ sn = 4 ∨ sn = 5 ∨ sn = 6 ∨ sn = 7 ∨ sn = 8 ∨ sn = 9) with rfl | rfl | rfl | rfl | rfl | rfl | rfl | rfl | rfl | rfl
  all_goals
    go_enter Try.func28, Try.ntmps28
    go_wp2
    go_ret
    exact ⟨rfl, rfl⟩

theorem checkL_le (keys : List Nm) : ∀ (k : Nat) (l : List UInt8) (before : Int) (m : Nat) (M : Int), checkL keys k l before m = (M, 0) → (m : Int) ≤ M
  | 0, l, before, m, M, h => by
    rw [checkL] at h
    have := congrArg Prod.fst h
    simp at this; omega
  | k + 1, l, before, m, M, h => by
    rw [checkL] at h
    split at h
    · have h1 := checkL_le keys k _ _ _ M h
      have h2 : m ≤ m ||| 2 ^ (voteA l).1.signer.toNat := Nat.left_le_or
      omega
    · rename_i hne
      have := congrArg Prod.snd h
      exact absurd this hne
theorem checkL_pos (keys : List Nm) (k : Nat) (l : List UInt8) (before : Int) (m : Nat) (M : Int) (h : checkL keys (k + 1) l before m = (M, 0)) : M ≠ 0 := by
  rw [checkL] at h
  split at h
  · have h1 := checkL_le keys k _ _ _ M h
    have h2 : 2 ^ (voteA l).1.signer.toNat ≤ m ||| 2 ^ (voteA l).1.signer.toNat := Nat.right_le_or
    have h3 : 0 < 2 ^ (voteA l).1.signer.toNat := Nat.two_pow_pos _
    omega
  · rename_i hne
    have := congrArg Prod.snd h
    exact absurd this hne
theorem checkL_zero (keys : List Nm) : ∀ (k : Nat) (l : List UInt8) (before : Int) (m : Nat), ¬ (checkL keys k l before m).2 = 0 → (checkL keys k l before m).1 = 0
  | 0, l, before, m, h => absurd rfl h
  | k + 1, l, before, m, h => by
    rw [checkL] at h ⊢
    split
    · rename_i hz
      rw [if_pos hz] at h
      exact checkL_zero keys k _ _ _ h
    · rfl
theorem checkF_zero (keys : List Nm) (p : List UInt8) (h : ¬ (checkF keys p).2 = 0) : (checkF keys p).1 = 0 := by
  unfold checkF at *
  split
  · rfl
  · simp only at h ⊢
    split
    · rfl
    · rename_i h1
      rw [if_neg h1] at h
      split
      · rfl
      · rename_i h2
        rw [if_neg h2] at h
        split
        · rfl
        · rename_i h3
          rw [if_neg h3] at h
          exact checkL_zero keys _ _ _ _ h
/-- An accepted proof. -/
theorem checkF_ok (keys : List Nm) (p : List UInt8) (M : Int) (h : checkF keys p = (M, 0)) : ∃ x rl, p = x :: rl ∧ 1 ≤ x.toNat ∧ x.toNat ≤ 10 ∧ rl.length = x.toNat * 786 ∧ checkL keys x.toNat rl (-1) 0 = (M, 0) := by
  rcases p with _ | ⟨x, rl⟩
  · have := congrArg Prod.snd h
    exact absurd this (show ¬ ((2 : Int) = 0) from (by decide))
  · have h0 : (if x.toNat = 0 ∨ 10 < x.toNat then ((0 : Int), (4 : Int)) else if rl.length < x.toNat * 786 then (0, 2) else if x.toNat * 786 < rl.length then (0, 3) else checkL keys x.toNat rl (-1) 0) = (M, 0) := h
    by_cases h1 : x.toNat = 0 ∨ 10 < x.toNat
    · rw [if_pos h1] at h0; have := congrArg Prod.snd h0; exact absurd this (show ¬ ((4 : Int) = 0) from (by decide))
    · rw [if_neg h1] at h0
      by_cases h2 : rl.length < x.toNat * 786
      · rw [if_pos h2] at h0; have := congrArg Prod.snd h0; exact absurd this (show ¬ ((2 : Int) = 0) from (by decide))
      · rw [if_neg h2] at h0
        by_cases h3 : x.toNat * 786 < rl.length
        · rw [if_pos h3] at h0; have := congrArg Prod.snd h0; exact absurd this (show ¬ ((3 : Int) = 0) from (by decide))
        · rw [if_neg h3] at h0
          exact ⟨x, rl, rfl, by omega, by omega, by omega, h0⟩
end Go.Proofs.Ythmecidpjlaonaa
namespace Go.Proofs.Ythmecidpjlaonaa
open Go.RowKit
attribute [local go_sem ↓] Go.wp_at_zero Go.wp_at_succ loadNm loadVt loadSg loadEv
attribute [local go_sem] runNm runVt runSg runEv pickRow_some rowAt_drew rowAt_drewN

theorem check_any (K A : Option Addr) (ck c : Nat) (keys : List Nm) (p : List UInt8) (w : World) (hK : Rd w w.heap.size K (keys.flatMap nmc)) (hr : Rd w w.heap.size A (p.map B)) (hc : p.length ≤ c) (hm : c ≤ maxLen) :
    Calls Try.prog 22 #[.slice K keys.length ck, .slice A p.length c] w (CheckPost w (checkF keys p)) :=
  check_core K A keys.length ck p.length c keys p _ w rfl rfl hK hr hc hm rfl
/-- Valid evidence, by the reference, out of an element without error. -/
theorem rvalid_elem (K : Option Addr) (ck : Nat) (keys : List Nm) (e : Ev) (before : Int) (w : World) (hK : Rd w w.heap.size K (keys.flatMap nmc)) (hE : EvOk w w.heap.size e) (hca : SgCap e.a) (hcb : SgCap e.b) (hf : faultF keys e.a.vote e.a.sig e.b.vote e.b.sig before = 0) :
    Calls Try.prog 27 #[.slice K keys.length ck, e.val] w (BoolPost w true) := by
  obtain ⟨h1, h2, h3, h4, h5, h6⟩ := faultF_zero hf
  obtain ⟨sn, hsn⟩ := Int.eq_ofNat_of_zero_le h1.2.2.1.bounds.2.2.2.2.1.1
  have hsb : e.b.vote.signer = (sn : Int) := by rw [← h1.2.1.2.2.2.2]; exact hsn
  have hlt : sn < keys.length := by omega
  have hx := getD_some Nm.zero hlt
  have hne : keys.flatMap nmc ≠ [] := by
    intro e0
    have := flat_length nmc 8 keys (nmc_len keys)
    rw [e0] at this
    simp at this; omega
  obtain ⟨b, o, rfl, _, _⟩ := hK.cells hne
  have hkey : ∀ W, Below w.heap.size w W → rowAt W b (o + sn * 8) 8 = some (keys.getD sn Nm.zero).cells := fun W hW => (hK.below hW).row hx
  rw [show e.a.vote.signer.toNat = sn from by rw [hsn]; rfl] at h5 h6
  refine validev_yes _ keys.length ck e w (fun W => ?_) (fun W => ?_) (fun W hW => ?_) (fun W hW => ?_)
  · have h := rconf_any e.a.vote e.b.vote W hE.1.1 hE.2.1
    rwa [decide_eq_true h1] at h
  · have h := rvless_any e.a.vote e.b.vote W
    rwa [h2] at h
  · refine verify_yes _ keys.length ck e.a W sn hsn b o rfl (keys.getD sn Nm.zero) hlt (fun W' hW' => hkey W' (hW.trans (hW'.mono hW.size))) (fun W' hW' => ?_)
    have hWW := hW.trans (hW'.mono hW.size)
    have h := rsver_any (keys.getD sn Nm.zero) e.a W' ((hE.1.below hWW).more hWW.size) hca
    rwa [h5] at h
  · refine verify_yes _ keys.length ck e.b W sn hsb b o rfl (keys.getD sn Nm.zero) hlt (fun W' hW' => hkey W' (hW.trans (hW'.mono hW.size))) (fun W' hW' => ?_)
    have hWW := hW.trans (hW'.mono hW.size)
    have h := rsver_any (keys.getD sn Nm.zero) e.b W' ((hE.2.below hWW).more hWW.size) hcb
    rwa [h6] at h

set_option maxRecDepth 100000 in
set_option maxHeartbeats 2000000 in
theorem exh_no (K A : Option Addr) (nk ck n c : Nat) (x : Int) (w : World) (hx : (x != 0) = true) (hcheck : Calls Try.prog 22 #[.slice K nk ck, .slice A n c] w (CheckPost w (0, x))) :
    Calls Try.prog 5 #[.slice K nk ck, .slice A n c] w (BoolPost w true) := by
  have HC := Lib.hid hcheck; clear hcheck
  go_enter Try.func5, Try.ntmps5
  go_wp2_with (first
    | (go_at_call 22; refine HC.out.mono ?_; rintro en w1 ⟨rfl, hb1⟩)
    | (go_at_call 21; refine (awake10_any _).mono ?_; rintro en w2 ⟨rfl, hb2⟩))
  go_ret
  exact ⟨rfl, hb1.trans (hb2.mono hb1.size)⟩

/-- Where the law stands at the head of its loop. -/
def ExhRel (keys : List Nm) (p : List UInt8) (w : World) (n : Nat) (M : Int) (g i : Value) (wr : World) : Prop :=
  ∃ (k at_ : Nat) (before : Int) (m : Nat), g = .int .i64 (m : Int) ∧ i = .int .i64 (at_ : Int) ∧ at_ + k * 786 = n ∧ 1 ≤ at_ ∧ k ≤ 10 ∧ m < 1024 ∧ checkL keys k (p.drop at_) before m = (M, 0) ∧ Below w.heap.size w wr
set_option maxRecDepth 100000 in
set_option maxHeartbeats 4000000 in
theorem exh_yes (K A : Option Addr) (nk ck n c : Nat) (keys : List Nm) (p : List UInt8) (M : Int) (w : World) (hnk : keys.length = nk) (hn : p.length = n) (hK : Rd w w.heap.size K (keys.flatMap nmc)) (hr : Rd w w.heap.size A (p.map B))
    (hc : n ≤ c) (hm : c ≤ maxLen) (hres : checkF keys p = (M, 0)) (hcheck : Calls Try.prog 22 #[.slice K nk ck, .slice A n c] w (CheckPost w (M, 0))) :
    Calls Try.prog 5 #[.slice K nk ck, .slice A n c] w (BoolPost w true) := by
  have HC := Lib.hid hcheck; clear hcheck
  obtain ⟨x, rl, hp, hx1, hx10, hrl, hL⟩ := checkF_ok keys p M hres
  obtain ⟨kx, hkx⟩ : ∃ kx, x.toNat = kx + 1 := ⟨x.toNat - 1, by omega⟩
  have hMp : M ≠ 0 := by rw [hkx] at hL; exact checkL_pos keys kx rl (-1) 0 M hL
  have hn2 : n = 1 + x.toNat * 786 := by rw [← hn, hp, List.length_cons, hrl]; omega
  have hdrop : p.drop 1 = rl := by rw [hp]; rfl
  have HL : Hid (checkL keys x.toNat (p.drop 1) (-1) 0 = (M, 0)) := by rw [hdrop]; exact hL
  have HNK := Lib.hid hnk
  have HN := Lib.hid hn
  have HK := Lib.hid hK
  have HR := Lib.hid hr
  clear hnk hn hK hr hres hL hdrop hrl hkx kx
  obtain ⟨b, o, hAe, hb, hcell⟩ := HR.out.cells (by rw [hp]; simp)
  subst hAe
  clear hcell hp
  unfold maxLen at hm
  generalize x.toNat = kx at *
  have hn787 : 787 ≤ n := by omega
  have hnl : n ≤ 7861 := by omega
  have hrem : ((((n : Int) - 1) % 786) != 0) = false := by
    rw [hn2]
    have : ((1 + kx * 786 : Nat) : Int) - 1 = (kx : Int) * 786 := by omega
    rw [this, Int.mul_emod_left]; rfl
  have hMb : (M != 0) = true := by simpa using hMp
  have HN2 := Lib.hid hn2
  clear hn2 hMp
  go_enter Try.func5, Try.ntmps5
  go_wp2_with ((go_at_call 22; refine HC.out.mono ?_; rintro en w1 ⟨rfl, hb1⟩))
  clear hrem
  go_loopw [7, 8] (fun g i wr => ExhRel keys p w n M g i wr) (fun _ i _ => n - (intOf i).toNat)
  case atStart => exact ⟨kx, 1, -1, 0, rfl, rfl, HN2.out.symm, by omega, by omega, by omega, HL.out, hb1⟩
  case round =>
    clear hb1
    obtain ⟨k, at_, before, m, rfl, rfl, hat, hat1, hk10, hm10, hck, hbw⟩ := hrel
    have HCk := Lib.hid hck; clear hck
    cases k with
    | zero =>
      obtain rfl : at_ = n := by omega
      have e : (m : Int) = M := congrArg Prod.fst HCk.out
      have hme : ((m : Int) == M) = true := by rw [e]; exact beq_self_eq_true _
      clear e
      go_wp2_with ((go_at_call 21; refine (awake10_any _).mono ?_; rintro en w2 ⟨rfl, hb2⟩))
      go_ret
      exact ⟨rfl, hbw.trans (hb2.mono hbw.size)⟩
    | succ k =>
      have hll : (p.drop at_).length = n - at_ := by rw [List.length_drop, HN.out]
      have hel : elemF keys (p.drop at_) before = 0 := by
        have h := HCk.out
        rw [checkL] at h
        by_cases hz : elemF keys (p.drop at_) before = 0
        · exact hz
        · rw [if_neg hz] at h
          exact absurd (congrArg Prod.snd h) hz
      have hnext : checkL keys k (p.drop (at_ + 786)) (voteA (p.drop at_)).1.signer (m ||| 2 ^ (voteA (p.drop at_)).1.signer.toNat) = (M, 0) := by
        have h := HCk.out
        rw [checkL, if_pos hel, List.drop_drop] at h
        exact h
      obtain ⟨hz1, hz2, hf⟩ := elemF_zero hel
      have hzz := faultF_zero hf
      obtain ⟨sn, hsn⟩ := Int.eq_ofNat_of_zero_le hzz.1.2.2.1.bounds.2.2.2.2.1.1
      have hs9 : sn ≤ 9 := by have := hzz.1.2.2.1.bounds.2.2.2.2.1.2; omega
      have hrd : Rd w w.heap.size (some ⟨b, o + at_, none⟩) ((p.drop at_).map B) := by
        obtain ⟨b', o', e, hb', hc'⟩ := HR.out.cells (by intro e; rw [List.map_eq_nil_iff] at e; have := HN.out; rw [e] at this; simp at this; omega)
        injection e with e
        injection e with e1 e2
        subst e1; subst e2
        refine Rd.mk hb' fun j u hu => ?_
        rw [Nat.add_assoc]
        exact hc' _ u (by rw [List.map_drop, List.getElem?_drop] at hu; exact hu)
      have hrt : Rd w w.heap.size (some ⟨b, o + at_, none⟩) (((p.drop at_).take 786).map B) := by rw [List.map_take]; exact hrd.take 786
      have hdec := fun W (hW : Below w.heap.size w W) => redec_ok_any (some ⟨b, o + at_, none⟩) (c - at_) ((p.drop at_).take 786) W ((hrt.below hW).more hW.size) (by rw [List.length_take, hll]; omega) (by omega) (by unfold maxLen; omega) (by rw [voteA_take]; exact hz1) (by rw [voteB_take]; exact hz2)
      rw [voteA_take, voteB_take, sigA_take, sigB_take] at hdec
      have HDec := Lib.hid hdec
      have HSA := Lib.hid (sigA_len (p.drop at_) (by rw [hll]; omega))
      have HSB := Lib.hid (sigB_len (p.drop at_) (by rw [hll]; omega))
      have HOA : Hid (voteA (p.drop at_)).1.ok := decVote_ok _
      have HOB : Hid (voteB (p.drop at_)).1.ok := decVote_ok _
      rw [hsn] at hnext
      have HNext : Hid (checkL keys k (p.drop (at_ + 786)) (sn : Int) (m ||| 2 ^ sn) = (M, 0)) := hnext
      have Hf := Lib.hid hf
      have HSn := Lib.hid hsn
      clear hdec hrt hrd hll hel hnext hz1 hz2 hf hzz hsn HCk
      generalize (voteA (p.drop at_)).1 = va at *
      generalize (voteB (p.drop at_)).1 = vb at *
      generalize sigA (p.drop at_) = sa at *
      generalize sigB (p.drop at_) = sb at *
      obtain ⟨q, hq⟩ : ∃ q, q = 2 ^ sn := ⟨_, rfl⟩
      have hq10 : q < 1024 := by rw [hq]; exact Nat.pow_lt_pow_right (n := 10) (by omega) (by omega)
      have HBit : Hid (∀ W, Calls Try.prog 28 #[.int .i64 (sn : Int)] W fun e w' => e = .returned (.int .i64 (q : Int)) ∧ w' = W) := fun W => by rw [hq]; exact bit_any sn W hs9
      have hor := i64_or m q (by omega) (by omega)
      have hmq : m ||| q < 1024 := by rw [hq]; exact or_lt10 m sn hm10 hs9
      have HQ := Lib.hid hq
      clear hq
      obtain ⟨mq, hmqe⟩ : ∃ mq, mq = m ||| q := ⟨_, rfl⟩
      rw [← hmqe] at hor hmq
      have HMQ := Lib.hid hmqe
      clear hmqe
      have i2 : at_ + 786 ≤ n := by omega
      have i3 : ¬ c = at_ := by omega
      go_wp2_with fail
      refine (HDec.out _ hbw).mono ?_
      rintro en w2 ⟨A2, c2, A3, c3, rfl, hn2, hn3, hr2, hc2, hm2, hr3, hc3, hm3, hb2⟩
      obtain ⟨E, hE⟩ : ∃ E : Ev, E = ⟨⟨va, sa, A2, c2⟩, ⟨vb, sb, A3, c3⟩⟩ := ⟨_, rfl⟩
      have hEok : EvOk w2 w2.heap.size E := by rw [hE]; exact ⟨⟨HOA.out, hr2, by rw [HSA.out]; omega⟩, ⟨HOB.out, hr3, by rw [HSB.out]; omega⟩⟩
      have hEca : SgCap E.a := by rw [hE]; exact ⟨hc2, hm2⟩
      have hEcb : SgCap E.b := by rw [hE]; exact ⟨hc3, hm3⟩
      have hfd : faultF keys E.a.vote E.a.sig E.b.vote E.b.sig before = 0 := by rw [hE]; exact Hf.out
      have hsg : E.a.vote.signer = (sn : Int) := by rw [hE]; exact HSn.out
      rw [← hE]
      have hbw2 := hbw.trans (hb2.mono hbw.size)
      clear hE hn2 hn3 hr2 hc2 hm2 hr3 hc3 hm3 hb2 hbw
      have HF : Hid (∀ W, Below w2.heap.size w2 W → Calls Try.prog 27 #[.slice K nk ck, E.val] W (BoolPost W true)) := fun W hW => by
        have h := rvalid_elem K ck keys E before W ((HK.out.below (hbw2.trans (hW.mono hbw2.size))).more (hbw2.trans (hW.mono hbw2.size)).size) ((hEok.below hW).more hW.size) hEca hEcb hfd
        rw [HNK.out] at h
        exact h
      have HSg := Lib.hid hsg
      clear hEok hEca hEcb hfd hsg
      go_wp2_with (refine wpList_store_blk rfl 45 (.tmp 9) (.tmp 47) rfl w2.heap.size E.cells rfl rfl 45 zeroEc (Blk.new w2 _ _) (by rw [Ev.size_cells]; rfl) (by rw [Ev.size_cells]; exact size_ev) (fun u hu => one_ev E hu) ?_)
      intro w3 hV3 hg3 hs3
      have hb23 : Below w2.heap.size w2 w3 := ((Below.refl _ _).alloc (Nat.le_refl _) _).grown hg3 (by simp) (by rintro j ⟨⟩; omega)
      have hbw3 := hbw2.trans (hb23.mono hbw2.size)
      have hl3 := hV3.lt
      have x3 := hV3.row 46 (Ev.size_cells _)
      have HF3 := Lib.hid (HF.out w3 hb23)
      clear hg3 hs3 HF
      go_wp2_with fail
      refine HF3.out.mono ?_
      rintro en w4 ⟨rfl, hb4⟩
      have hV4 := hV3.below hb4 hV3.lt
      have hbw4 := hbw3.trans (hb4.mono hbw3.size)
      have s4 : w4.cell? ⟨w2.heap.size, 4, none⟩ = some (.int .i64 (sn : Int)) := by rw [← HSg.out]; exact (hV4.cell 4).trans E.cell_signer
      have hl4 := hV4.lt
      clear x3 hV3 hbw3 hb4
      go_wp2_with ((go_at_call 28; refine (HBit.out _).mono ?_; rintro en w' ⟨rfl, rfl⟩))
      go_roundw
      case rel => exact ⟨k, at_ + 786, sn, mq, rfl, by go_num, by omega, by omega, by omega, hmq, by rw [HMQ.out, HQ.out]; exact HNext.out, hbw4⟩
      case measure => simp [intOf]; omega

theorem exh_any (K A : Option Addr) (ck c : Nat) (keys : List Nm) (p : List UInt8) (w : World) (hK : Rd w w.heap.size K (keys.flatMap nmc)) (hr : Rd w w.heap.size A (p.map B)) (hc : p.length ≤ c) (hm : c ≤ maxLen) :
    Calls Try.prog 5 #[.slice K keys.length ck, .slice A p.length c] w (BoolPost w true) := by
  have hcheck := check_any K A ck c keys p w hK hr hc hm
  by_cases h0 : (checkF keys p).2 = 0
  · have e : checkF keys p = ((checkF keys p).1, 0) := by rw [← h0]
    rw [e] at hcheck
    exact exh_yes K A keys.length ck p.length c keys p _ w rfl rfl hK hr hc hm e hcheck
  · have e : checkF keys p = (0, (checkF keys p).2) := by rw [← checkF_zero keys p h0]
    rw [e] at hcheck
    exact exh_no K A keys.length ck p.length c _ w (by simpa using h0) hcheck
end Go.Proofs.Ythmecidpjlaonaa
