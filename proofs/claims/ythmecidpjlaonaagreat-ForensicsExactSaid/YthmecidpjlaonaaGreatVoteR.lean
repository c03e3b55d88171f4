/-
  The reference's Valid returns true just for the votes that are valid (ValidP), and changes nothing. Condition: the vote's Support is an int64 (Vt.ok).
-/
import Derived.Test.YthmecidpjlaonaaGreatVote
namespace Go.Proofs.YthmecidpjlaonaaGreat
open Go.RowKit
theorem t_beq (a b : Int) : (true = (a == b)) = (a = b) := by simp
theorem f_beq (a b : Int) : (false = (a == b)) = ¬ (a = b) := by simp
theorem t_dec (p : Prop) [Decidable p] : (true = decide p) = p := by simp
theorem f_dec (p : Prop) [Decidable p] : (false = decide p) = ¬ p := by simp
theorem agree_any (k : Int) (w : World) :
    Calls Tryz.prog 78 #[.int .i64 k] w fun e w' => e = .returned (.bool (btw k 1 4)) ∧ w' = w := by
  go_enter Tryz.func78, Tryz.ntmps78
  go_wp2
  · go_ret
    have h : 1 ≤ k := by assumption
    exact ⟨by simp [btw, h], rfl⟩
  · go_ret
    have h' : ¬ 1 ≤ k := by omega
    exact ⟨by simp [btw, h'], rfl⟩
set_option maxRecDepth 100000 in
set_option maxHeartbeats 2000000 in
theorem rvalid_any (v : Vt) (w : World) (hv : v.ok) :
    Calls Tryz.prog 51 #[v.val] w fun e w' => e = .returned (.bool (decide (ValidP v))) ∧ Below w.heap.size w w' := by
  obtain ⟨zb, hzb⟩ : ∃ zb, zb = decide (v.value = Nm.zero) := ⟨_, rfl⟩
  have e0 := fun w => eqNm0 v.value w
  rw [← hzb] at e0
  have Hzb := Lib.hid hzb; clear hzb
  have hsup := andNot_zero _ hv.1 hv.2
  have Hsup := Lib.hid hsup; clear hsup
  go_enter Tryz.func51, Tryz.ntmps51
  go_wp2_with ((go_at_call 78; refine (agree_any _ _).mono ?_; rintro e w' ⟨rfl, rfl⟩))
  all_goals (try (go_quiet (fail)))
  all_goals (try (go_wp2))
  all_goals go_ret
  all_goals (refine ⟨ret_b (vp_close ?_), by repeat (first | exact (Below.refl _ _).alloc (Nat.le_refl _) _ | refine below_drewN ?_ _)⟩)
  all_goals (have hsup := Hsup.out)
  all_goals (have hz := Hzb.out)
  all_goals (cases zb)
  all_goals (simp only [btw_iff, beq_iff_eq, beq_eq_false_iff_ne, bne_iff_ne, ne_eq, bne_eq_false_iff_eq, hsup, t_beq, f_beq, t_dec, f_dec, decide_eq_true_eq] at *)
  all_goals (unfold ValidP)
  all_goals (simp only [hz, not_false_eq_true, not_true_eq_false, iff_true, iff_false, true_iff, false_iff, Bool.false_eq_true])
  all_goals omega
end Go.Proofs.YthmecidpjlaonaaGreat
