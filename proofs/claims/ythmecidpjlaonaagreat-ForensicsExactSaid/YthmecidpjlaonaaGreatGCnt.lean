/-
  The number of ones of a set of validators. Condition: the set lies below 1024.
  The program's and the reference's sizes of a set of validators are the number of its ones. Condition: the set lies below 1024.
-/
import Derived.Test.YthmecidpjlaonaaGreatGDefs
import Derived.Test.YthmecidpjlaonaaGreatGDig
namespace Go.Proofs.YthmecidpjlaonaaGreat
open Go.RowKit

/-- The number of ones below bit n. -/
def popF (x : Nat) : Nat → Nat
  | 0 => 0
  | n + 1 => popF x n + (x / 2 ^ n) % 2
def g1F (x : Nat) : Nat := (x / 2 &&& 6148914691236517205) + (x &&& 6148914691236517205)
def g2F (x : Nat) : Nat := (x / 4 &&& 3689348814741910323) + (x &&& 3689348814741910323)
def g3F (x : Nat) : Nat := (x / 16 + x) &&& 1085102592571150095
theorem cnt1 : ∀ x : Fin 1024, IntKind.u64.wrap (bits .and .u64 ((x.val : Int) / 2) 6148914691236517205 + bits .and .u64 (x.val : Int) 6148914691236517205) = ((g1F x.val : Nat) : Int) ∧ g1F x.val < 1024 := by decide +kernel
theorem cnt2 : ∀ x : Fin 1024, IntKind.u64.wrap (bits .and .u64 ((x.val : Int) / 4) 3689348814741910323 + bits .and .u64 (x.val : Int) 3689348814741910323) = ((g2F x.val : Nat) : Int) ∧ g2F x.val < 1024 := by decide +kernel
theorem cnt3 : ∀ x : Fin 1024, bits .and .u64 (IntKind.u64.wrap ((x.val : Int) / 16 + (x.val : Int))) 1085102592571150095 = ((g3F x.val : Nat) : Int)  := by decide +kernel
theorem cnt4 : ∀ x : Fin 1024, IntKind.u64.wrap ((x.val : Int) + (x.val : Int) / 256) = ((x.val + x.val / 256 : Nat) : Int) := by decide +kernel
theorem cnt5 : ∀ x : Fin 1024, IntKind.u64.wrap ((x.val : Int) + (x.val : Int) / 65536) = (x.val : Int) ∧ IntKind.u64.wrap ((x.val : Int) + (x.val : Int) / 4294967296) = (x.val : Int) ∧ IntKind.i64.wrap (x.val : Int) = (x.val : Int) ∧ bits .and .i64 (x.val : Int) 127 = ((x.val % 128 : Nat) : Int) := by decide +kernel
theorem cnt6 : ∀ x : Fin 1024, (g3F (g2F (g1F x.val)) + g3F (g2F (g1F x.val)) / 256) % 128 = popF x.val 10 ∧ g3F (g2F (g1F x.val)) < 1024 ∧ g3F (g2F (g1F x.val)) + g3F (g2F (g1F x.val)) / 256 < 1024 := by decide +kernel

set_option maxRecDepth 100000 in
theorem ones64_any (x : Nat) (w : World) (hx : x < 1024) : Calls Tryz.prog 115 #[.int .u64 (x : Int)] w fun e w' => e = .returned (.int .i64 ((popF x 10 : Nat) : Int)) ∧ w' = w := by
  obtain ⟨e1, l1⟩ := cnt1 ⟨x, hx⟩
  obtain ⟨e2, l2⟩ := cnt2 ⟨_, l1⟩
  have e3 := cnt3 ⟨_, l2⟩
  obtain ⟨e9, l3, l4⟩ := cnt6 ⟨x, hx⟩
  have e4 := cnt4 ⟨_, l3⟩
  obtain ⟨e5, e6, e7, e8⟩ := cnt5 ⟨_, l4⟩
  simp only at e1 e2 e3 e4 e5 e6 e7 e8 e9
  rw [e9] at e8
  generalize g3F (g2F (g1F x)) + g3F (g2F (g1F x)) / 256 = x4 at *
  generalize g3F (g2F (g1F x)) = x3 at *
  generalize g2F (g1F x) = x2 at *
  generalize g1F x = x1 at *
  generalize popF x 10 = r at *
  clear l1 l2 l3 l4 e9
  go_enter Tryz.func115, Tryz.ntmps115
  go_wp2
  go_ret
  exact ⟨rfl, rfl⟩
end Go.Proofs.YthmecidpjlaonaaGreat
namespace Go.Proofs.YthmecidpjlaonaaGreat
open Go.RowKit

theorem i64_and_lt (x : Nat) (hx : x < 1024) : bits .and .i64 (x : Int) 1023 = (x : Int) := by
  have h : ∀ y : Fin 1024, bits .and .i64 (y.val : Int) 1023 = (y.val : Int) := by decide +kernel
  exact h ⟨x, hx⟩
theorem wrap_u64_lt (x : Nat) (hx : x < 1024) : IntKind.u64.wrap (x : Int) = (x : Int) := by rw [IntKind.wrap_u64]; omega

set_option maxRecDepth 100000 in
theorem ones_any (x : Nat) (w : World) (hx : x < 1024) : Calls Tryz.prog 69 #[.int .u64 (x : Int)] w fun e w' => e = .returned (.int .i64 ((popF x 10 : Nat) : Int)) ∧ w' = w := by
  have H := Lib.hid (fun W => ones64_any x W hx)
  have hw := wrap_u64_lt x hx
  generalize popF x 10 = r at *
  go_enter Tryz.func69, Tryz.ntmps69
  go_wp2_with (go_at_call 115; refine (H.out _).mono ?_; rintro en w2 ⟨rfl, hw2⟩; replace hw2 := hw2.symm; subst hw2)
  go_ret
  exact ⟨rfl, rfl⟩
set_option maxRecDepth 100000 in
theorem csize_any (x : Nat) (w : World) (hx : x < 1024) : Calls Tryz.prog 40 #[.int .i64 (x : Int)] w fun e w' => e = .returned (.int .i64 ((popF x 10 : Nat) : Int)) ∧ w' = w := by
  have H := Lib.hid (fun W => ones_any x W hx)
  have hw := wrap_u64_lt x hx
  have ha := i64_and_lt x hx
  generalize popF x 10 = r at *
  go_enter Tryz.func40, Tryz.ntmps40
  go_wp2_with (go_at_call 69; refine (H.out _).mono ?_; rintro en w2 ⟨rfl, hw2⟩; replace hw2 := hw2.symm; subst hw2)
  go_ret
  exact ⟨rfl, rfl⟩
theorem and_bit (x : Nat) (hx : x < 1024) (k : Nat) : bits .and .i64 ((x : Int) / ((2 ^ k : Nat) : Int)) 1 = ((x / 2 ^ k % 2 : Nat) : Int) := by
  have h : ∀ y : Fin 1024, bits .and .i64 (y.val : Int) 1 = ((y.val % 2 : Nat) : Int) := by decide +kernel
  have hl : x / 2 ^ k < 1024 := Nat.lt_of_le_of_lt (Nat.div_le_self _ _) hx
  have := h ⟨_, hl⟩
  simpa using this
set_option maxRecDepth 100000 in
set_option maxHeartbeats 1000000 in
theorem rhas_any (x i : Nat) (hx : x < 1024) (hi : i < 10) (w : World) : Calls Tryz.prog 108 #[.int .i64 (x : Int), .int .i64 (i : Int)] w fun e w' => e = .returned (.bool (decide (x / 2 ^ i % 2 = 1))) ∧ w' = w := by
  have ha := and_bit x hx i
  obtain ⟨b, hb⟩ : ∃ b, b = x / 2 ^ i % 2 := ⟨_, rfl⟩
  rw [← hb] at ha ⊢
  have hd : ((b : Int) == 1) = decide (b = 1) := by
    by_cases h : b = 1
    · subst h; rfl
    · rw [decide_eq_false h]; simp; omega
  clear hb
  rcases (by omega : i = 0 ∨ i = 1 ∨ i = 2 ∨ i = 3 ∨ i = 4 ∨ i = 5 ∨ i = 6 ∨ i = 7 ∨ i = 8 ∨ i = 9) with rfl | rfl | rfl | rfl | rfl | rfl | rfl | rfl | rfl | rfl
  all_goals
    simp at ha
    go_enter Tryz.func108, Tryz.ntmps108
    go_wp2
    go_ret
    exact ⟨rfl, rfl⟩
/-- Where the reference's IDs stands. -/
def IdRel (x : Nat) (w : World) (v iv : Value) (wr : World) : Prop :=
  ∃ (i : Nat) (L : List Value), iv = .int .i64 (i : Int) ∧ i ≤ 10 ∧ wr.ownsRow w.heap.size 3 1 v (popF x i) L ∧ Below w.heap.size w wr
theorem popF_le (x : Nat) : ∀ i, popF x i ≤ i
  | 0 => Nat.le_refl _
  | i + 1 => by have := popF_le x i; show popF x i + (x / 2 ^ i) % 2 ≤ i + 1; omega
set_option maxRecDepth 100000 in
set_option maxHeartbeats 2000000 in
theorem rids_any (x : Nat) (w : World) (hx : x < 1024) : Calls Tryz.prog 66 #[.int .i64 (x : Int)] w fun e w' => ∃ A c, e = .returned (.slice A (popF x 10) c) ∧ Below w.heap.size w w' := by
  have HH := Lib.hid (fun i (hi : i < 10) W => rhas_any x i hx hi W)
  go_enter Tryz.func66, Tryz.ntmps66
  go_wp2
  go_loopw [3, 4] (fun v iv wr => IdRel x w v iv wr) (fun _ iv _ => 10 - (intOf iv).toNat)
  case atStart => exact ⟨0, [], rfl, by omega, ⟨rfl, .inl ⟨rfl, rfl⟩⟩, Below.refl _ _⟩
  case round =>
    obtain ⟨i, L, rfl, hin, hown, hb⟩ := hrel
    obtain ⟨n, hn⟩ : ∃ n, n = popF x i := ⟨_, rfl⟩
    have hn1 := popF_le x i
    rw [← hn] at hown hn1
    have HN := Lib.hid hn
    clear hn
    by_cases hi : i < 10
    · have di : decide ((i : Int) < 10) = true := by simp; omega
      have H := Lib.hid (HH.out i hi)
      obtain ⟨b, hbe⟩ : ∃ b, b = decide (x / 2 ^ i % 2 = 1) := ⟨_, rfl⟩
      rw [← hbe] at H
      have HB := Lib.hid hbe
      clear hbe
      cases b with
      | true =>
        have hp : popF x (i + 1) = n + 1 := by
          have := of_decide_eq_true HB.out.symm
          show popF x i + x / 2 ^ i % 2 = n + 1
          rw [← HN.out, this]
        go_wp2_with (first
          | (go_at_call 108; refine (H.out _).mono ?_; rintro en w2 ⟨rfl, hw2⟩; replace hw2 := hw2.symm; subst hw2)
          | (at_builtin; refine wpList_app rfl (.tmp 12) (.tmp 14) _ rfl w.heap.size 3 (.int .i64 0) 1 8 Tryz.underlying96 info_int rfl (by decide) _ n _ rfl (hown.alloc _) (wr.heap.size + 1) _ 1 1 [.int .i64 (i : Int)] rfl rfl (Rd.one wr (.int .i64 (i : Int)) 3) (fun u hu => one_cell hu rfl) (by omega) (by unfold maxLen; omega) (by have := hb.size; simp; omega) ?_; intro v2 w2 hown2 hg2 hat2))
        go_roundw
        case rel => exact ⟨i + 1, _, by go_num, by omega, by rw [hp]; exact hown2, below_own (hb.alloc hb.size _) (hown.alloc _) hg2⟩
        case measure => simp [intOf]; omega
      | false =>
        have hp : popF x (i + 1) = n := by
          have := of_decide_eq_false HB.out.symm
          show popF x i + x / 2 ^ i % 2 = n
          rw [← HN.out]; omega
        go_wp2_with (go_at_call 108; refine (H.out _).mono ?_; rintro en w2 ⟨rfl, hw2⟩; replace hw2 := hw2.symm; subst hw2)
        go_roundw
        case rel => exact ⟨i + 1, L, by go_num, by omega, by rw [hp]; exact hown, hb⟩
        case measure => simp [intOf]; omega
    · have di : decide ((i : Int) < 10) = false := by simp; omega
      have hi10 : i = 10 := by omega
      obtain ⟨A, c, hv⟩ := own_form hown
      subst hv
      go_wp2
      go_ret
      rw [HN.out, hi10]
      exact ⟨A, c, rfl, hb⟩
set_option maxRecDepth 100000 in
theorem rsize_any (x : Nat) (w : World) (hx : x < 1024) : Calls Tryz.prog 34 #[.int .i64 (x : Int)] w (IntPost w ((popF x 10 : Nat) : Int)) := by
  have H := Lib.hid (rids_any x w hx)
  generalize popF x 10 = r at *
  go_enter Tryz.func34, Tryz.ntmps34
  go_wp2_with (go_at_call 66; refine H.out.mono ?_; rintro en w2 ⟨A, c, rfl, hb2⟩)
  go_ret
  exact ⟨rfl, hb2⟩
end Go.Proofs.YthmecidpjlaonaaGreat
