/-
  vote.Valid returns true just for the votes that are valid (ValidP), and changes nothing; how '==' answers at names and votes. Condition: the vote's Support is an int64 (Vt.ok).
-/
import Derived.Test.YthmecidpjlaonaaGreatSMem
import Derived.BigQuiet
import Derived.Deep.QuietTactic
import Derived.RegionTactic
import Derived.StillTailTactics
namespace Go.Proofs.YthmecidpjlaonaaGreat
open Go.RowKit

theorem u8x (a b : UInt8) : ((a.toNat : Int) = (b.toNat : Int)) = (a = b) :=
  propext ⟨fun h => UInt8.toNat_inj.1 (by omega), fun h => by rw [h]⟩
theorem ite_ok {p q r : Prop} [Decidable p] [Decidable q] [Decidable r] (w : World) (h : (p ∧ q) = r) : (if p then Result.ok (decide q) w else Result.ok false w) = Result.ok (decide r) w := by
  subst h
  by_cases hp : p <;> simp [hp]
theorem ite_last {p : Prop} [Decidable p] (w : World) : (if p then Result.ok true w else Result.ok false w) = Result.ok (decide p) w := by
  by_cases hp : p <;> simp [hp]

set_option maxRecDepth 100000 in
theorem eqNm (a b : Nm) (w : World) (d : Nat) : (Op.equalIn (d + 2) 29 a.val b.val).run Tryz.prog w = .ok (decide (a = b)) w := by
  have u3 := Tryz.underlying5
  have a3 := Tryz.isAgg5
  have z3 := Tryz.sizeOf5
  rw [Op.equalIn]
  simp only [Sem.run_bind, run_underlying Tryz.underlying29, Result.andThen_ok]
  simp only [Std.Legacy.Range.forIn_eq_forIn_range', Std.Legacy.Range.size, Nat.sub_zero, Nat.add_sub_cancel, Nat.div_one, List.range'_succ, List.range'_zero, List.forIn_cons, List.forIn_nil]
  go_simp
  simp only [u8x]
  rw [ite_last]
  iterate 6 rw [ite_ok w rfl]
  refine ite_ok w ?_
  cases a; cases b; simp

set_option maxRecDepth 100000 in
theorem eqVt (a b : Vt) (w : World) : (Op.equalIn 10000 31 a.val b.val).run Tryz.prog w = .ok (decide (a = b)) w := by
  have u3 := Tryz.underlying3
  have a3 := Tryz.isAgg3
  have z3 := Tryz.sizeOf3
  have u4 := Tryz.underlying27
  have a4 := Tryz.isAgg27
  have z4 := Tryz.sizeOf27
  have a5 := Tryz.isAgg29
  have z5 := Tryz.sizeOf29
  have hS : Tryz.prog.underlying 31 = some (.struct (Tryz.prog.fieldsOf 31)) := by kernel_rfl
  rw [show (10000 : Nat) = 9999 + 1 from rfl, run_equalIn_agg w 9999 31 _ _ hS (by kernel_rfl)]
  have e6 := fun w => eqNm a.parent b.parent w 9997
  have e7 := fun w => eqNm a.value b.value w 9997
  simp only [Program.fieldsOf, Tryz.underlying31]
  go_simp
  rw [ite_last]
  iterate 6 rw [ite_ok w rfl]
  refine ite_ok w ?_
  cases a; cases b; simp
theorem eqNm0 (a : Nm) (w : World) : (Op.equalIn 10000 29 a.val (.agg #[.int .u8 0, .int .u8 0, .int .u8 0, .int .u8 0, .int .u8 0, .int .u8 0, .int .u8 0, .int .u8 0])).run Tryz.prog w = .ok (decide (a = Nm.zero)) w := eqNm a Nm.zero w 9998

def btw (n lo hi : Int) : Bool := decide (lo ≤ n) && decide (n ≤ hi)
theorem btw_any (n lo hi : Int) (w : World) :
    Calls Tryz.prog 90 #[.int .i64 n, .int .i64 lo, .int .i64 hi] w fun e w' => e = .returned (.bool (btw n lo hi)) ∧ w' = w := by
  go_enter Tryz.func90, Tryz.ntmps90
  go_wp2
  · go_ret
    have h : lo ≤ n := by assumption
    exact ⟨by simp [btw, h], rfl⟩
  · go_ret
    have h : n < lo := by assumption
    have h' : ¬ lo ≤ n := by omega
    exact ⟨by simp [btw, h'], rfl⟩

theorem bv_andNot (x c : BitVec 64) : x &&& ~~~c = 0#64 ↔ x = x &&& c := by
  constructor
  · intro h
    apply BitVec.eq_of_getLsbD_eq
    intro i hi
    have := congrArg (fun y => BitVec.getLsbD y i) h
    simp only [BitVec.getLsbD_and, BitVec.getLsbD_not, hi, decide_true, Bool.true_and, BitVec.getLsbD_zero] at this
    rw [BitVec.getLsbD_and]
    revert this
    cases x.getLsbD i <;> cases c.getLsbD i <;> simp
  · intro h
    rw [h]
    apply BitVec.eq_of_getLsbD_eq
    intro i hi
    simp [hi]
theorem andNot_zero (s : Int) (h1 : -9223372036854775808 ≤ s) (h2 : s ≤ 9223372036854775807) : (bits .andNot .i64 s 1023 = 0) ↔ (0 ≤ s ∧ s ≤ 1023) := by
  show IntKind.i64.wrap ((BitVec.ofInt 64 s &&& ~~~ BitVec.ofInt 64 1023).toNat : Int) = 0 ↔ _
  have hx : ((BitVec.ofInt 64 s).toNat : Int) = s % 18446744073709551616 := by
    rw [BitVec.toNat_ofInt]; omega
  have hw : ∀ y : BitVec 64, IntKind.i64.wrap (y.toNat : Int) = 0 ↔ y = 0#64 := by
    intro y
    have := y.isLt
    rw [IntKind.wrap_i64]
    constructor
    · intro h
      apply BitVec.eq_of_toNat_eq
      simp; omega
    · rintro rfl; simp
  rw [hw, bv_andNot]
  generalize BitVec.ofInt 64 s = x at *
  have h3 : (x &&& BitVec.ofInt 64 1023).toNat = x.toNat % 1024 := by
    rw [BitVec.toNat_and]
    show x.toNat &&& (2 ^ 10 - 1) = _
    rw [Nat.and_two_pow_sub_one_eq_mod]
  constructor
  · intro h
    have := congrArg BitVec.toNat h
    rw [h3] at this
    omega
  · intro h
    apply BitVec.eq_of_toNat_eq
    rw [h3]; omega

def ValidP (v : Vt) : Prop := (1 ≤ v.kind ∧ v.kind ≤ 7) ∧ (0 ≤ v.signer ∧ v.signer ≤ 9) ∧ ((v.choice = 1) ↔ ¬ v.value = Nm.zero) ∧ (0 ≤ v.support ∧ v.support ≤ 1023) ∧
  ((v.kind = 1 ∨ v.kind = 2) → (0 ≤ v.slot ∧ v.slot ≤ 9) ∧ v.round = 0 ∧ v.support = 0 ∧ v.choice = 1) ∧
  (v.kind = 3 → (0 ≤ v.slot ∧ v.slot ≤ 9) ∧ (1 ≤ v.round ∧ v.round ≤ 12) ∧ (0 ≤ v.choice ∧ v.choice ≤ 1) ∧ (v.round ≠ 1 ∨ v.choice ≠ 0 ∨ v.support = 0)) ∧
  (v.kind = 4 → (0 ≤ v.slot ∧ v.slot ≤ 9) ∧ (1 ≤ v.round ∧ v.round ≤ 12) ∧ (0 ≤ v.choice ∧ v.choice ≤ 2)) ∧
  (5 ≤ v.kind → v.slot = 0 ∧ v.round = 0 ∧ v.support = 0 ∧ v.choice = 1)
instance (v : Vt) : Decidable (ValidP v) := by unfold ValidP; infer_instance

/-- The vote's numbers are int64's. -/
def Vt.ok (v : Vt) : Prop := -9223372036854775808 ≤ v.support ∧ v.support ≤ 9223372036854775807

theorem quiet_same {P : Program} {f : FuncId} {args : Array Value} {w : World} {a n : Nat} {v : Value}
    (h : Calls P f args (w.drewN (a + n)) fun e w' => e = .returned v ∧ w' = w.drewN (a + n)) :
    Calls P f args (w.drewN (a + n)) fun e w'' => e = .returned v ∧ ∃ m, w'' = w.drewN (a + m) :=
  h.mono fun _ _ ⟨he, hm⟩ => ⟨he, n, hm⟩

theorem ret_b {a b : Bool} (h : a = b) : Ending.returned (.bool a) = .returned (.bool b) := by rw [h]
theorem btw_iff (n lo hi : Int) : (btw n lo hi = true) = (lo ≤ n ∧ n ≤ hi) := by simp [btw]
theorem vp_close {b : Bool} {p : Prop} [Decidable p] (h : b = true ↔ p) : b = decide p := by
  by_cases hp : p
  · rw [decide_eq_true hp]; exact h.2 hp
  · rw [decide_eq_false hp]; exact Bool.eq_false_iff.2 fun hb => hp (h.1 hb)

set_option maxRecDepth 100000 in
set_option maxHeartbeats 2000000 in
theorem valid_true_true (v : Vt) (w : World) (hv : v.ok) (hk : btw v.kind 1 7 = true) (hs : btw v.signer 0 9 = true) (zb : Bool) (hc : (v.choice == 1) = true) (hzb : zb = decide (v.value = Nm.zero)) (hz : zb = false)
    (hr : (v.round == 0) = true) :
    Calls Tryz.prog 56 #[v.val] w fun e w' => e = .returned (.bool (decide (ValidP v))) ∧ Below w.heap.size w w' := by
  have e0 := fun w => eqNm0 v.value w
  rw [← hzb] at e0
  have Hzb := Lib.hid hzb; clear hzb
  subst hz
  go_enter Tryz.func56, Tryz.ntmps56
  go_wp2_with ((go_at_call 90; refine (btw_any _ _ _ _).mono ?_; rintro e w' ⟨rfl, rfl⟩))
  go_quiet (fail)
  go_wp2_with ((go_at_call 90; refine (btw_any _ _ _ _).mono ?_; rintro e w' ⟨rfl, rfl⟩))
  · go_ret
    refine ⟨ret_b ?_, below_drewN ((Below.refl _ _).alloc (Nat.le_refl _) _) _⟩
    have hn : ¬ (0 ≤ v.support ∧ v.support ≤ 1023) := by rw [← andNot_zero _ hv.1 hv.2]; exact bne_iff_ne.1 ‹_›
    have hp : ¬ ValidP v := fun h => hn h.2.2.2.1
    simp [hp]
  · have hh : (bits BinOp.andNot IntKind.i64 v.support 1023 != 0) = false := by assumption
    have hn : (0 ≤ v.support ∧ v.support ≤ 1023) := by rw [← andNot_zero _ hv.1 hv.2]; simpa using hh
    clear hh
    have HN := Lib.hid hn; clear hn
    go_quiet (fail)
    go_wp2_with ((go_at_call 90; refine (btw_any _ _ _ _).mono ?_; rintro e w' ⟨rfl, rfl⟩))
    all_goals (try (go_quiet ((go_at_call 90; exact quiet_same (btw_any _ _ _ _)))))
    all_goals (try (go_wp2_with ((go_at_call 90; refine (btw_any _ _ _ _).mono ?_; rintro e w' ⟨rfl, rfl⟩))))
    all_goals (try go_ret)
    all_goals (refine ⟨ret_b (vp_close ?_), by repeat (first | exact (Below.refl _ _).alloc (Nat.le_refl _) _ | refine below_drewN ?_ _)⟩)
    all_goals (have hz : ¬ v.value = Nm.zero := (by simpa using Hzb.out))
    all_goals (have hn := HN.out)
    all_goals (simp only [btw_iff, beq_iff_eq, beq_eq_false_iff_ne] at *)
    all_goals (unfold ValidP)
    all_goals (simp only [hz, not_false_eq_true, iff_true, true_iff, false_iff, Bool.false_eq_true])
    all_goals omega

set_option maxRecDepth 100000 in
set_option maxHeartbeats 2000000 in
theorem valid_true_false (v : Vt) (w : World) (hv : v.ok) (hk : btw v.kind 1 7 = true) (hs : btw v.signer 0 9 = true) (zb : Bool) (hc : (v.choice == 1) = true) (hzb : zb = decide (v.value = Nm.zero)) (hz : zb = false)
    (hr : (v.round == 0) = false) :
    Calls Tryz.prog 56 #[v.val] w fun e w' => e = .returned (.bool (decide (ValidP v))) ∧ Below w.heap.size w w' := by
  have e0 := fun w => eqNm0 v.value w
  rw [← hzb] at e0
  have Hzb := Lib.hid hzb; clear hzb
  subst hz
  go_enter Tryz.func56, Tryz.ntmps56
  go_wp2_with ((go_at_call 90; refine (btw_any _ _ _ _).mono ?_; rintro e w' ⟨rfl, rfl⟩))
  go_quiet (fail)
  go_wp2_with ((go_at_call 90; refine (btw_any _ _ _ _).mono ?_; rintro e w' ⟨rfl, rfl⟩))
  · go_ret
    refine ⟨ret_b ?_, below_drewN ((Below.refl _ _).alloc (Nat.le_refl _) _) _⟩
    have hn : ¬ (0 ≤ v.support ∧ v.support ≤ 1023) := by rw [← andNot_zero _ hv.1 hv.2]; exact bne_iff_ne.1 ‹_›
    have hp : ¬ ValidP v := fun h => hn h.2.2.2.1
    simp [hp]
  · have hh : (bits BinOp.andNot IntKind.i64 v.support 1023 != 0) = false := by assumption
    have hn : (0 ≤ v.support ∧ v.support ≤ 1023) := by rw [← andNot_zero _ hv.1 hv.2]; simpa using hh
    clear hh
    have HN := Lib.hid hn; clear hn
    go_quiet (fail)
    go_wp2_with ((go_at_call 90; refine (btw_any _ _ _ _).mono ?_; rintro e w' ⟨rfl, rfl⟩))
    all_goals (try (go_quiet ((go_at_call 90; exact quiet_same (btw_any _ _ _ _)))))
    all_goals (try (go_wp2_with ((go_at_call 90; refine (btw_any _ _ _ _).mono ?_; rintro e w' ⟨rfl, rfl⟩))))
    all_goals (try go_ret)
    all_goals (refine ⟨ret_b (vp_close ?_), by repeat (first | exact (Below.refl _ _).alloc (Nat.le_refl _) _ | refine below_drewN ?_ _)⟩)
    all_goals (have hz : ¬ v.value = Nm.zero := (by simpa using Hzb.out))
    all_goals (have hn := HN.out)
    all_goals (simp only [btw_iff, beq_iff_eq, beq_eq_false_iff_ne] at *)
    all_goals (unfold ValidP)
    all_goals (simp only [hz, not_false_eq_true, iff_true, true_iff, false_iff, Bool.false_eq_true])
    all_goals omega

set_option maxRecDepth 100000 in
set_option maxHeartbeats 2000000 in
theorem valid_false_true (v : Vt) (w : World) (hv : v.ok) (hk : btw v.kind 1 7 = true) (hs : btw v.signer 0 9 = true) (zb : Bool) (hc : (v.choice == 1) = false) (hzb : zb = decide (v.value = Nm.zero)) (hz : zb = true)
    (hr : (v.round == 0) = true) :
    Calls Tryz.prog 56 #[v.val] w fun e w' => e = .returned (.bool (decide (ValidP v))) ∧ Below w.heap.size w w' := by
  have e0 := fun w => eqNm0 v.value w
  rw [← hzb] at e0
  have Hzb := Lib.hid hzb; clear hzb
  subst hz
  go_enter Tryz.func56, Tryz.ntmps56
  go_wp2_with ((go_at_call 90; refine (btw_any _ _ _ _).mono ?_; rintro e w' ⟨rfl, rfl⟩))
  go_quiet (fail)
  go_wp2_with ((go_at_call 90; refine (btw_any _ _ _ _).mono ?_; rintro e w' ⟨rfl, rfl⟩))
  · go_ret
    refine ⟨ret_b ?_, below_drewN ((Below.refl _ _).alloc (Nat.le_refl _) _) _⟩
    have hn : ¬ (0 ≤ v.support ∧ v.support ≤ 1023) := by rw [← andNot_zero _ hv.1 hv.2]; exact bne_iff_ne.1 ‹_›
    have hp : ¬ ValidP v := fun h => hn h.2.2.2.1
    simp [hp]
  · have hh : (bits BinOp.andNot IntKind.i64 v.support 1023 != 0) = false := by assumption
    have hn : (0 ≤ v.support ∧ v.support ≤ 1023) := by rw [← andNot_zero _ hv.1 hv.2]; simpa using hh
    clear hh
    have HN := Lib.hid hn; clear hn
    go_quiet (fail)
    go_wp2_with ((go_at_call 90; refine (btw_any _ _ _ _).mono ?_; rintro e w' ⟨rfl, rfl⟩))
    all_goals (try (go_quiet ((go_at_call 90; exact quiet_same (btw_any _ _ _ _)))))
    all_goals (try (go_wp2_with ((go_at_call 90; refine (btw_any _ _ _ _).mono ?_; rintro e w' ⟨rfl, rfl⟩))))
    all_goals (try go_ret)
    all_goals (refine ⟨ret_b (vp_close ?_), by repeat (first | exact (Below.refl _ _).alloc (Nat.le_refl _) _ | refine below_drewN ?_ _)⟩)
    all_goals (have hz : v.value = Nm.zero := (by simpa using Hzb.out))
    all_goals (have hn := HN.out)
    all_goals (simp only [btw_iff, beq_iff_eq, beq_eq_false_iff_ne] at *)
    all_goals (unfold ValidP)
    all_goals (simp only [hz, not_true_eq_false, iff_false, true_iff, false_iff, Bool.false_eq_true])
    all_goals omega

set_option maxRecDepth 100000 in
set_option maxHeartbeats 2000000 in
theorem valid_false_false (v : Vt) (w : World) (hv : v.ok) (hk : btw v.kind 1 7 = true) (hs : btw v.signer 0 9 = true) (zb : Bool) (hc : (v.choice == 1) = false) (hzb : zb = decide (v.value = Nm.zero)) (hz : zb = true)
    (hr : (v.round == 0) = false) :
    Calls Tryz.prog 56 #[v.val] w fun e w' => e = .returned (.bool (decide (ValidP v))) ∧ Below w.heap.size w w' := by
  have e0 := fun w => eqNm0 v.value w
  rw [← hzb] at e0
  have Hzb := Lib.hid hzb; clear hzb
  subst hz
  go_enter Tryz.func56, Tryz.ntmps56
  go_wp2_with ((go_at_call 90; refine (btw_any _ _ _ _).mono ?_; rintro e w' ⟨rfl, rfl⟩))
  go_quiet (fail)
  go_wp2_with ((go_at_call 90; refine (btw_any _ _ _ _).mono ?_; rintro e w' ⟨rfl, rfl⟩))
  · go_ret
    refine ⟨ret_b ?_, below_drewN ((Below.refl _ _).alloc (Nat.le_refl _) _) _⟩
    have hn : ¬ (0 ≤ v.support ∧ v.support ≤ 1023) := by rw [← andNot_zero _ hv.1 hv.2]; exact bne_iff_ne.1 ‹_›
    have hp : ¬ ValidP v := fun h => hn h.2.2.2.1
    simp [hp]
  · have hh : (bits BinOp.andNot IntKind.i64 v.support 1023 != 0) = false := by assumption
    have hn : (0 ≤ v.support ∧ v.support ≤ 1023) := by rw [← andNot_zero _ hv.1 hv.2]; simpa using hh
    clear hh
    have HN := Lib.hid hn; clear hn
    go_quiet (fail)
    go_wp2_with ((go_at_call 90; refine (btw_any _ _ _ _).mono ?_; rintro e w' ⟨rfl, rfl⟩))
    all_goals (try (go_quiet ((go_at_call 90; exact quiet_same (btw_any _ _ _ _)))))
    all_goals (try (go_wp2_with ((go_at_call 90; refine (btw_any _ _ _ _).mono ?_; rintro e w' ⟨rfl, rfl⟩))))
    all_goals (try go_ret)
    all_goals (refine ⟨ret_b (vp_close ?_), by repeat (first | exact (Below.refl _ _).alloc (Nat.le_refl _) _ | refine below_drewN ?_ _)⟩)
    all_goals (have hz : v.value = Nm.zero := (by simpa using Hzb.out))
    all_goals (have hn := HN.out)
    all_goals (simp only [btw_iff, beq_iff_eq, beq_eq_false_iff_ne] at *)
    all_goals (unfold ValidP)
    all_goals (simp only [hz, not_true_eq_false, iff_false, true_iff, false_iff, Bool.false_eq_true])
    all_goals omega

set_option maxRecDepth 100000 in
set_option maxHeartbeats 2000000 in
theorem valid_any (v : Vt) (w : World) (hv : v.ok) :
    Calls Tryz.prog 56 #[v.val] w fun e w' => e = .returned (.bool (decide (ValidP v))) ∧ Below w.heap.size w w' := by
  by_cases hk : btw v.kind 1 7 = true
  case neg =>
    have hp : ¬ ValidP v := fun h => hk (by rw [btw_iff]; exact h.1)
    have HP := Lib.hid hp; clear hp
    rw [Bool.not_eq_true] at hk
    go_enter Tryz.func56, Tryz.ntmps56
    go_wp2_with ((go_at_call 90; refine (btw_any _ _ _ _).mono ?_; rintro e w' ⟨rfl, rfl⟩))
    go_ret
    exact ⟨ret_b (decide_eq_false HP.out).symm, (Below.refl _ _).alloc (Nat.le_refl _) _⟩
  by_cases hs : btw v.signer 0 9 = true
  case neg =>
    have hp : ¬ ValidP v := fun h => hs (by rw [btw_iff]; exact h.2.1)
    have HP := Lib.hid hp; clear hp
    rw [Bool.not_eq_true] at hs
    go_enter Tryz.func56, Tryz.ntmps56
    go_wp2_with ((go_at_call 90; refine (btw_any _ _ _ _).mono ?_; rintro e w' ⟨rfl, rfl⟩))
    go_ret
    exact ⟨ret_b (decide_eq_false HP.out).symm, (Below.refl _ _).alloc (Nat.le_refl _) _⟩
  by_cases hz : v.value = Nm.zero
  · by_cases hc : v.choice = 1
    · have hp : ¬ ValidP v := fun h => absurd hz (h.2.2.1.1 hc)
      have HP := Lib.hid hp; clear hp
      obtain ⟨zb, hzb⟩ : ∃ zb, zb = decide (v.value = Nm.zero) := ⟨_, rfl⟩
      have e0 := fun w => eqNm0 v.value w
      rw [← hzb] at e0
      obtain rfl : zb = true := by rw [hzb]; exact decide_eq_true hz
      clear hzb hz
      have hc' : (v.choice == 1) = true := beq_iff_eq.2 hc
      clear hc
      go_enter Tryz.func56, Tryz.ntmps56
      go_wp2_with ((go_at_call 90; refine (btw_any _ _ _ _).mono ?_; rintro e w' ⟨rfl, rfl⟩))
      go_quiet (fail)
      go_wp2
      go_ret
      exact ⟨ret_b (decide_eq_false HP.out).symm, below_drewN ((Below.refl _ _).alloc (Nat.le_refl _) _) _⟩
    · by_cases hr : v.round = 0
      · exact valid_false_true v w hv hk hs true (beq_eq_false_iff_ne.2 hc) (decide_eq_true hz).symm rfl (beq_iff_eq.2 hr)
      · exact valid_false_false v w hv hk hs true (beq_eq_false_iff_ne.2 hc) (decide_eq_true hz).symm rfl (beq_eq_false_iff_ne.2 hr)
  · by_cases hc : v.choice = 1
    · by_cases hr : v.round = 0
      · exact valid_true_true v w hv hk hs false (beq_iff_eq.2 hc) (decide_eq_false hz).symm rfl (beq_iff_eq.2 hr)
      · exact valid_true_false v w hv hk hs false (beq_iff_eq.2 hc) (decide_eq_false hz).symm rfl (beq_eq_false_iff_ne.2 hr)
    · have hp : ¬ ValidP v := fun h => hc (h.2.2.1.2 hz)
      have HP := Lib.hid hp; clear hp
      obtain ⟨zb, hzb⟩ : ∃ zb, zb = decide (v.value = Nm.zero) := ⟨_, rfl⟩
      have e0 := fun w => eqNm0 v.value w
      rw [← hzb] at e0
      obtain rfl : zb = false := by rw [hzb]; exact decide_eq_false hz
      clear hzb hz
      have hc' : (v.choice == 1) = false := beq_eq_false_iff_ne.2 hc
      clear hc
      go_enter Tryz.func56, Tryz.ntmps56
      go_wp2_with ((go_at_call 90; refine (btw_any _ _ _ _).mono ?_; rintro e w' ⟨rfl, rfl⟩))
      go_quiet (fail)
      go_wp2
      go_ret
      exact ⟨ret_b (decide_eq_false HP.out).symm, below_drewN ((Below.refl _ _).alloc (Nat.le_refl _) _) _⟩
end Go.Proofs.YthmecidpjlaonaaGreat
