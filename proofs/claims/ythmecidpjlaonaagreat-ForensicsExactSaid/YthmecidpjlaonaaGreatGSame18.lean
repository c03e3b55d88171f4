/-
  The comparison of two signed votes in the statements of layer 18. Condition: the two lie in memory below the call.
-/
import Derived.Test.YthmecidpjlaonaaGreatGSame
namespace Go.Proofs.YthmecidpjlaonaaGreat
open Go.RowKit
attribute [local go_sem ↓] Go.wp_at_zero Go.wp_at_succ loadNm loadVt loadSg loadEv
attribute [local go_sem] runNm runVt runSg runEv pickRow_some rowAt_drew rowAt_drewN

set_option maxRecDepth 100000 in
set_option maxHeartbeats 1000000 in
theorem same18_any (a b : Sg) (w : World) (ha : SgOk w w.heap.size a) (hb : SgOk w w.heap.size b) : Calls Tryz.prog 28 #[a.val, b.val] w (BoolPost w (decide (a.vs = b.vs))) := by
  obtain ⟨w1, hw1⟩ : ∃ w1, w1 = (w.alloc (.cells a.cells 34)).alloc (.cells b.cells 34) := ⟨_, rfl⟩
  have hbw : Below w.heap.size w w1 := by rw [hw1]; exact ((Below.refl _ _).alloc (Nat.le_refl _) _).alloc (by simp) _
  have hBa : Blk w1 w.heap.size 34 a.cells := by rw [hw1]; exact (Blk.new w _ _).alloc _
  have hBb : Blk w1 (w.heap.size + 1) 34 b.cells := by
    rw [hw1]
    have := Blk.new (w.alloc (.cells a.cells 34)) 34 b.cells
    simpa using this
  have xa : rowAt w1 w.heap.size 0 22 = some a.vote.cells := a.row_vote hBa
  have xb : rowAt w1 (w.heap.size + 1) 0 22 = some b.vote.cells := b.row_vote hBb
  have ca : w1.cell? ⟨w.heap.size, 22, none⟩ = some (.slice a.A a.sig.length a.cap) := (hBa.cell 22).trans a.cell_sig
  have cb : w1.cell? ⟨w.heap.size + 1, 22, none⟩ = some (.slice b.A b.sig.length b.cap) := (hBb.cell 22).trans b.cell_sig
  have va := conv_str w1 w.heap.size a.A a.cap a.sig (ha.2.1.below hbw)
  have vb := conv_str w1 w.heap.size b.A b.cap b.sig (hb.2.1.below hbw)
  obtain ⟨k1, hk1⟩ : ∃ k, k = decide (a.vote = b.vote) := ⟨_, rfl⟩
  obtain ⟨k2, hk2⟩ : ∃ k, k = decide (a.sig = b.sig) := ⟨_, rfl⟩
  obtain ⟨sa, hsa⟩ : ∃ s : ByteArray, s = ⟨a.sig.toArray⟩ := ⟨_, rfl⟩
  obtain ⟨sb, hsb⟩ : ∃ s : ByteArray, s = ⟨b.sig.toArray⟩ := ⟨_, rfl⟩
  rw [← hsa] at va
  rw [← hsb] at vb
  have e2 : (sa.toList == sb.toList) = k2 := by rw [hsa, hsb, hk2]; exact str_eq _ _
  have e1 : ∀ W, (Op.equalIn 10000 31 (.agg a.vote.cells) (.agg b.vote.cells)).run Tryz.prog W = .ok k1 W := fun W => by rw [hk1]; exact eqVt a.vote b.vote W
  have hr : decide (a.vs = b.vs) = (k1 && k2) := by
    rw [hk1, hk2, Bool.eq_iff_iff, decide_eq_true_eq, vs_iff, Bool.and_eq_true, decide_eq_true_eq, decide_eq_true_eq]
  rw [hr]
  clear hk1 hk2 hsa hsb hr hBa hBb ha hb
  go_enter Tryz.func28, Tryz.ntmps28
  go_upto_region 1 with fail
  rw [← hw1]
  clear hw1
  cases k1 with
  | true =>
    go_wp2
    go_ret
    exact ⟨rfl, hbw⟩
  | false =>
    go_wp2
    go_ret
    exact ⟨rfl, hbw⟩
end Go.Proofs.YthmecidpjlaonaaGreat
