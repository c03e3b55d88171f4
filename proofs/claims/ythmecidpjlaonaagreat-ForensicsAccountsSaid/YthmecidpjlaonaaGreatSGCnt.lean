/-
  The number of ones of a set of validators. Condition: the set lies below 1024.
  The program's and the reference's sizes of a set of validators are the number of its ones. Condition: the set lies below 1024.
-/
import Derived.Test.YthmecidpjlaonaaGreatSGDefs
import Derived.Test.YthmecidpjlaonaaGreatSGDig
namespace Go.Proofs.YthmecidpjlaonaaGreat
open Go.RowKit

/-- The number of ones below bit n. -/
def popF (x : Nat) : Nat → Nat
  | 0 => 0
  | n + 1 => popF x n + (x / 2 ^ n) % 2
def g1F (x : Nat) : Nat := (x / 2 &&& 6148914691236517205) + (x &&& 6148914691236517205)
def g2F (x : Nat) : Nat := (x / 4 &&& 3689348814741910323) + (x &&& 3689348814741910323)
def g3F (x : Nat) : Nat := (x / 16 + x) &&& 1085102592571150095
theorem cnt1 : ∀ x : Fin 1024, IntKind.u64.wrap (bits .and .u64 ((x.val : Int) / 2) 6148914691236517205 + bits .and .u64 (x.val : Int) 6148914691236517205) = ((g1F x.val : Nat) : Int) ∧ g1F x.val < 1024 := by decide +kernel
theorem cnt2 : ∀ x : Fin 1024, IntKind.u64.wrap (bits .and .u64 ((x.val : Int) / 4) 3689348814741910323 + bits .and .u64 (x.val : Int) 3689348814741910323) = ((g2F x.val : Nat) : Int) ∧ g2F x.val < 1024 := by decide +kernel
theorem cnt3 : ∀ x : Fin 1024, bits .and .u64 (IntKind.u64.wrap ((x.val : Int) / 16 + (x.val : Int))) 1085102592571150095 = ((g3F x.val : Nat) : Int)  := by decide +kernel
theorem cnt4 : ∀ x : Fin 1024, IntKind.u64.wrap ((x.val : Int) + (x.val : Int) / 256) = ((x.val + x.val / 256 : Nat) : Int) := by decide +kernel
theorem cnt5 : ∀ x : Fin 1024, IntKind.u64.wrap ((x.val : Int) + (x.val : Int) / 65536) = (x.val : Int) ∧ IntKind.u64.wrap ((x.val : Int) + (x.val : Int) / 4294967296) = (x.val : Int) ∧ IntKind.i64.wrap (x.val : Int) = (x.val : Int) ∧ bits .and .i64 (x.val : Int) 127 = ((x.val % 128 : Nat) : Int) := by decide +kernel
theorem cnt6 : ∀ x : Fin 1024, (g3F (g2F (g1F x.val)) + g3F (g2F (g1F x.val)) / 256) % 128 = popF x.val 10 ∧ g3F (g2F (g1F x.val)) < 1024 ∧ g3F (g2F (g1F x.val)) + g3F (g2F (g1F x.val)) / 256 < 1024 := by decide +kernel

set_option maxRecDepth 100000 in
theorem ones64_any (x : Nat) (w : World) (hx : x < 1024) : Calls Tryz.prog 115 #[.int .u64 (x : Int)] w fun e w' => e = .returned (.int .i64 ((popF x 10 : Nat) : Int)) ∧ w' = w := by
  obtain ⟨e1, l1⟩ := cnt1 ⟨x, hx⟩
  obtain ⟨e2, l2⟩ := cnt2 ⟨_, l1⟩
  have e3 := cnt3 ⟨_, l2⟩
  obtain ⟨e9, l3, l4⟩ := cnt6 ⟨x, hx⟩
  have e4 := cnt4 ⟨_, l3⟩
  obtain ⟨e5, e6, e7, e8⟩ := cnt5 ⟨_, l4⟩
  simp only at e1 e2 e3 e4 e5 e6 e7 e8 e9
  rw [e9] at e8
  generalize g3F (g2F (g1F x)) + g3F (g2F (g1F x)) / 256 = x4 at *
  generalize g3F (g2F (g1F x)) = x3 at *
  generalize g2F (g1F x) = x2 at *
  generalize g1F x = x1 at *
  generalize popF x 10 = r at *
  clear l1 l2 l3 l4 e9
  go_enter Tryz.func115, Tryz.ntmps115
  go_wp2
  go_ret
  exact ⟨rfl, rfl⟩
end Go.Proofs.YthmecidpjlaonaaGreat
namespace Go.Proofs.YthmecidpjlaonaaGreat
open Go.RowKit

theorem i64_and_lt (x : Nat) (hx : x < 1024) : bits .and .i64 (x : Int) 1023 = (x : Int) := by
  have h : ∀ y : Fin 1024, bits .and .i64 (y.val : Int) 1023 = (y.val : Int) := by decide +kernel
  exact h ⟨x, hx⟩
theorem wrap_u64_lt (x : Nat) (hx : x < 1024) : IntKind.u64.wrap (x : Int) = (x : Int) := by rw [IntKind.wrap_u64]; omega

set_option maxRecDepth 100000 in
theorem ones_any (x : Nat) (w : World) (hx : x < 1024) : Calls Tryz.prog 69 #[.int .u64 (x : Int)] w fun e w' => e = .returned (.int .i64 ((popF x 10 : Nat) : Int)) ∧ w' = w := by
  have H := Lib.hid (fun W => ones64_any x W hx)
  have hw := wrap_u64_lt x hx
  generalize popF x 10 = r at *
  go_enter Tryz.func69, Tryz.ntmps69
  go_wp2_with (go_at_call 115; refine (H.out _).mono ?_; rintro en w2 ⟨rfl, hw2⟩; replace hw2 := hw2.symm; subst hw2)
  go_ret
  exact ⟨rfl, rfl⟩
set_option maxRecDepth 100000 in
theorem csize_any (x : Nat) (w : World) (hx : x < 1024) : Calls Tryz.prog 40 #[.int .i64 (x : Int)] w fun e w' => e = .returned (.int .i64 ((popF x 10 : Nat) : Int)) ∧ w' = w := by
  have H := Lib.hid (fun W => ones_any x W hx)
  have hw := wrap_u64_lt x hx
  have ha := i64_and_lt x hx
  generalize popF x 10 = r at *
  go_enter Tryz.func40, Tryz.ntmps40
  go_wp2_with (go_at_call 69; refine (H.out _).mono ?_; rintro en w2 ⟨rfl, hw2⟩; replace hw2 := hw2.symm; subst hw2)
  go_ret
  exact ⟨rfl, rfl⟩
theorem popF_le (x : Nat) : ∀ i, popF x i ≤ i
  | 0 => Nat.le_refl _
  | i + 1 => by have := popF_le x i; show popF x i + (x / 2 ^ i) % 2 ≤ i + 1; omega
end Go.Proofs.YthmecidpjlaonaaGreat
