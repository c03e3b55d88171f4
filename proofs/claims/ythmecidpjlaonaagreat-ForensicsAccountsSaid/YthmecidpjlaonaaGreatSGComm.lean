/-
  committee.Has, Size, Quorum and Third at any set: its ten lowest bits count. Conditions: an id from 0 to 9, a number of members of at most 10.
  committee.IDs returns the ids of a set in ascending order, in new memory (a loop over a function). No condition.
-/
import Derived.Test.YthmecidpjlaonaaGreatSGCnt
import Derived.Test.YthmecidpjlaonaaGreatSGAcP
import Derived.RangeFuncNested
import Derived.RangeFuncBox
import Derived.RangeFuncLeaves
import Derived.OwnWalkIn
import Derived.Shelf.Abstract
import Derived.TacticsInMore
import Derived.LoopNIn
import Derived.LoopIn
import Derived.Maps.AppendAt
namespace Go.Proofs.YthmecidpjlaonaaGreat
open Go.RowKit

/-- The ten lowest bits of a set. -/
def xOf (M : Int) : Nat := (M % 1024).toNat
theorem xOf_lt (M : Int) : xOf M < 1024 := by unfold xOf; omega
theorem xOf_nat (x : Nat) (hx : x < 1024) : xOf (x : Int) = x := by unfold xOf; omega
theorem bv_low (y : BitVec 64) : (y &&& BitVec.ofInt 64 1023).toNat = y.toNat % 1024 := by
  rw [BitVec.toNat_and]
  show y.toNat &&& (2 ^ 10 - 1) = _
  rw [Nat.and_two_pow_sub_one_eq_mod]
theorem bv_one (y : BitVec 64) : (y &&& BitVec.ofInt 64 1).toNat = y.toNat % 2 := by
  rw [BitVec.toNat_and]
  show y.toNat &&& (2 ^ 1 - 1) = _
  rw [Nat.and_two_pow_sub_one_eq_mod]
theorem and_1023 (M : Int) : bits .and .i64 M 1023 = (xOf M : Int) := by
  show IntKind.i64.wrap ((BitVec.ofInt 64 M &&& BitVec.ofInt 64 1023).toNat : Int) = _
  rw [bv_low, BitVec.toNat_ofInt, IntKind.wrap_i64]
  unfold xOf
  omega
theorem and_1 (M : Int) : bits .and .i64 M 1 = M % 2 := by
  show IntKind.i64.wrap ((BitVec.ofInt 64 M &&& BitVec.ofInt 64 1).toNat : Int) = _
  rw [bv_one, BitVec.toNat_ofInt, IntKind.wrap_i64]
  omega
theorem has_bit (M : Int) (i : Nat) (hi : i < 10) : (M / ((2 ^ i : Nat) : Int) % 2 == 1) = (xOf M).testBit i := by
  rw [Nat.testBit_eq_decide_div_mod_eq]
  unfold xOf
  rw [Bool.eq_iff_iff, beq_iff_eq, decide_eq_true_eq]
  rcases (by omega : i = 0 ∨ i = 1 ∨ i = 2 ∨ i = 3 ∨ i = 4 ∨ i = 5 ∨ i = 6 ∨ i = 7 ∨ i = 8 ∨ i = 9) with rfl | rfl | rfl | rfl | rfl | rfl | rfl | rfl | rfl | rfl <;> simp <;> omega

set_option maxRecDepth 100000 in
set_option maxHeartbeats 1000000 in
theorem chas_any (M : Int) (i : Nat) (hi : i < 10) (w : World) : Calls Tryz.prog 67 #[.int .i64 M, .int .i64 (i : Int)] w fun e w' => e = .returned (.bool ((xOf M).testBit i)) ∧ w' = w := by
  have ha := and_1 (M / ((2 ^ i : Nat) : Int))
  have hb := has_bit M i hi
  rw [← ha] at hb
  clear ha
  generalize (xOf M).testBit i = r at *
  rcases (by omega : i = 0 ∨ i = 1 ∨ i = 2 ∨ i = 3 ∨ i = 4 ∨ i = 5 ∨ i = 6 ∨ i = 7 ∨ i = 8 ∨ i = 9) with rfl | rfl | rfl | rfl | rfl | rfl | rfl | rfl | rfl | rfl
  all_goals
    simp at hb
    go_enter Tryz.func67, Tryz.ntmps67
    go_wp2
    go_ret
    exact ⟨rfl, rfl⟩
set_option maxRecDepth 100000 in
theorem csizeM_any (M : Int) (w : World) : Calls Tryz.prog 40 #[.int .i64 M] w fun e w' => e = .returned (.int .i64 ((popF (xOf M) 10 : Nat) : Int)) ∧ w' = w := by
  have H := Lib.hid (fun W => ones_any (xOf M) W (xOf_lt M))
  have hw := wrap_u64_lt (xOf M) (xOf_lt M)
  have ha := and_1023 M
  generalize popF (xOf M) 10 = r at *
  generalize xOf M = x at *
  go_enter Tryz.func40, Tryz.ntmps40
  go_wp2_with (go_at_call 69; refine (H.out _).mono ?_; rintro en w2 ⟨rfl, hw2⟩; replace hw2 := hw2.symm; subst hw2)
  go_ret
  exact ⟨rfl, rfl⟩
set_option maxRecDepth 100000 in
theorem quorum_any (n : Nat) (hn : n ≤ 10) (w : World) : Calls Tryz.prog 110 #[.int .i64 (n : Int)] w fun e w' => e = .returned (.int .i64 ((quoF n : Nat) : Int)) ∧ w' = w := by
  rcases (by omega : n = 0 ∨ n = 1 ∨ n = 2 ∨ n = 3 ∨ n = 4 ∨ n = 5 ∨ n = 6 ∨ n = 7 ∨ n = 8 ∨ n = 9 ∨ n = 10) with rfl | rfl | rfl | rfl | rfl | rfl | rfl | rfl | rfl | rfl | rfl
  all_goals
    go_enter Tryz.func110, Tryz.ntmps110
    go_wp2
    go_ret
    exact ⟨rfl, rfl⟩
set_option maxRecDepth 100000 in
theorem third_any (n : Nat) (hn : n ≤ 10) (w : World) : Calls Tryz.prog 39 #[.int .i64 (n : Int)] w fun e w' => e = .returned (.int .i64 ((thiF n : Nat) : Int)) ∧ w' = w := by
  rcases (by omega : n = 0 ∨ n = 1 ∨ n = 2 ∨ n = 3 ∨ n = 4 ∨ n = 5 ∨ n = 6 ∨ n = 7 ∨ n = 8 ∨ n = 9 ∨ n = 10) with rfl | rfl | rfl | rfl | rfl | rfl | rfl | rfl | rfl | rfl | rfl
  all_goals
    go_enter Tryz.func39, Tryz.ntmps39
    go_wp2
    go_ret
    exact ⟨rfl, rfl⟩
end Go.Proofs.YthmecidpjlaonaaGreat
namespace Go.Proofs.YthmecidpjlaonaaGreat
open Go.RowKit Go.Shelf
attribute [local go_sem] Oper.semAt_some
/-- The ids of a set below n. -/
def idsF (s n : Nat) : List Nat := (List.range n).filter fun i => s.testBit i
theorem idsF_hit {s n : Nat} (h : s.testBit n = true) : idsF s (n + 1) = idsF s n ++ [n] := by simp [idsF, List.range_succ, List.filter_append, h]
theorem idsF_miss {s n : Nat} (h : s.testBit n = false) : idsF s (n + 1) = idsF s n := by simp [idsF, List.range_succ, List.filter_append, h]
theorem idsF_len (s n : Nat) : (idsF s n).length ≤ n := by
  have := List.length_filter_le (fun i => s.testBit i) (List.range n)
  rwa [List.length_range] at this
theorem idsF_mem {s n i : Nat} : i ∈ idsF s n ↔ i < n ∧ s.testBit i = true := by simp [idsF]

/-- What a round keeps: the old memory and the boxed set. -/
def IdKeep (n₀ B : Nat) (V W : World) : Prop := Below n₀ V W ∧ W.heap[B]? = V.heap[B]?
theorem idKeep_t {n₀ B : Nat} {U V W : World} (h : IdKeep n₀ B U V) (k : IdKeep n₀ B V W) : IdKeep n₀ B U W := ⟨h.1.trans k.1, k.2.trans h.2⟩

set_option maxRecDepth 100000 in
set_option maxHeartbeats 1000000 in
theorem ids_iter (n : Nat) (hn : 1 ≤ n) (l Bn n₀ : Nat) (M : Int) (J Jx : List Nat → World → Prop)
    (hY : ∀ (pre : List Nat) (x : Nat) (W : World), J pre W → pre.length < 10 → YieldAt Fence.wide (n - 1) Tryz.prog l #[.int .i64 (x : Int)] W fun e W' =>
      (e = .returned (.bool true) ∧ J (pre ++ [x]) W' ∧ IdKeep n₀ Bn W W') ∨ (e = .returned (.bool false) ∧ Jx (pre ++ [x]) W'))
    (W : World) (hB : Boxed W Bn 27 (.int .i64 M)) (h0 : J [] W) :
    CallsIn Fence.wide n Tryz.prog 219 #[.func (.yield l) #[] #[], .pointer (some ⟨Bn, 0, none⟩)] W fun e W' => (∃ v, e = .returned v) ∧
      ((∃ ys, ys = idsF (xOf M) 10 ∧ J ys W') ∨ (∃ pre, True ∧ Jx pre W')) := by
  have HH := Lib.hid (fun i (hi : i < 10) W => chas_any M i hi W)
  refine callsIn_of_wp Tryz.func219 rfl trivial ?_ rfl
  simp only [Tryz.ntmps219, List.size_toArray, List.length_cons, List.length_nil, Nat.reduceAdd, Nat.reduceSub, Array.replicate_succ, Array.replicate_zero, List.push_toArray, List.append_toArray, List.nil_append, List.cons_append]
  gi_wp2
  gi_loopw [4] (fun iv wr => ∃ i : Nat, iv = .int .i64 (i : Int) ∧ i ≤ 10 ∧ Boxed wr Bn 27 (.int .i64 M) ∧ J (idsF (xOf M) i) wr) (fun iv _ => 10 - (intOf iv).toNat)
  case atStart => exact ⟨0, rfl, by omega, hB, h0⟩
  case round =>
    obtain ⟨i, rfl, hin, hbox, hJ⟩ := hrel
    have hcell := hbox.cell
    by_cases hi : i < 10
    · have di : decide ((i : Int) < 10) = true := by simp; omega
      have H := Lib.hid (HH.out i hi)
      cases hb : (xOf M).testBit i with
      | true =>
        rw [hb] at H
        have hids := idsF_hit hb
        obtain ⟨fn, tmps, assign, body, hy, hR⟩ := hY _ i wr hJ (by have := idsF_len (xOf M) i; omega)
        gi_wp2_with (refine ⟨trivial, ?_⟩; gi_at_call 67; refine (callsIn_wide.2 (H.out _)).mono ?_; rintro en w2 ⟨rfl, hw2⟩; replace hw2 := hw2.symm; subst hw2)
        refine hR.mono ?_
        rintro e W3 (⟨rfl, hJ3, hk3⟩ | ⟨rfl, hx3⟩)
        · have hbox3 : Boxed W3 Bn 27 (.int .i64 M) := hk3.2.trans hbox
          gi_wp2
          go_roundw
          case rel => exact ⟨i + 1, by go_num, by omega, hbox3, by rw [hids]; exact hJ3⟩
          case measure => simp [intOf]; omega
        · gi_wp2
          refine bodyPost_ret (results_none rfl _ _ _) rfl ?_
          exact ⟨⟨_, rfl⟩, .inr ⟨_, trivial, hx3⟩⟩
      | false =>
        rw [hb] at H
        have hids := idsF_miss hb
        gi_wp2_with (refine ⟨trivial, ?_⟩; gi_at_call 67; refine (callsIn_wide.2 (H.out _)).mono ?_; rintro en w2 ⟨rfl, hw2⟩; replace hw2 := hw2.symm; subst hw2)
        refine ⟨fun _ h => (by cases h), ?_⟩
        gi_wp2
        go_roundw
        case rel => exact ⟨i + 1, by go_num, by omega, hbox, by rw [hids]; exact hJ⟩
        case measure => simp [intOf]; omega
    · have di : decide ((i : Int) < 10) = false := by simp; omega
      have hi10 : i = 10 := by omega
      subst hi10
      gi_wp2
      go_end0
      exact ⟨⟨_, rfl⟩, .inl ⟨_, rfl, hJ⟩⟩

theorem ids_stops (n : Nat) (hn : 1 ≤ n) (Bn n₀ : Nat) (M : Int) (w : World) (hBn : Boxed w Bn 27 (.int .i64 M)) :
    SeqStopsK Fence.wide n Tryz.prog 219 #[.pointer (some ⟨Bn, 0, none⟩)] (fun x : Nat => #[Value.int .i64 (x : Int)]) (IdKeep n₀ Bn) (fun ys => ys = idsF (xOf M) 10) (fun _ => True) 10 w := fun l J Jx W hW _ _ hY h0 =>
  ids_iter n hn l Bn n₀ M J Jx hY W ((hW.block Bn hBn.lt).trans hBn) h0

set_option maxRecDepth 100000 in
theorem mem_any (M : Int) (w : World) : Calls Tryz.prog 218 #[.int .i64 M] w fun e w' => e = .returned (.func (.func 219) #[] #[.pointer (some ⟨w.heap.size, 0, none⟩)]) ∧ w' = w.alloc (.cells #[.int .i64 M] 27) := by
  go_enter Tryz.func218, Tryz.ntmps218
  go_wp2
  go_ret
  exact ⟨rfl, rfl⟩
theorem info_int' : (Tryz.prog.info? 3).map (fun i => (i.zero, i.size, i.bytes)) = some (some (.int .i64 0), 1, 8) := by kernel_rfl

set_option maxRecDepth 100000 in
set_option maxHeartbeats 2000000 in
theorem ids_any (M : Int) (w : World) : Calls Tryz.prog 215 #[.int .i64 M] w fun e w' => ∃ v, e = .returned v ∧ w'.ownsRow w.heap.size 3 1 v (idsF (xOf M) 10).length ((idsF (xOf M) 10).map fun i : Nat => Value.int .i64 (i : Int)) ∧ Below w.heap.size w w' := by
  obtain ⟨i0, hi, hz0, hz1, hz2⟩ := info_parts info_int'
  have HMem := Lib.hid (fun W => mem_any M W)
  refine (callsIn_wide (n := 3)).1 ?_
  refine callsIn_of_wp_marks Tryz.func215 rfl trivial ?_ rfl
  simp only [Tryz.ntmps215, List.size_toArray, List.length_cons, List.length_nil, Nat.reduceAdd, Nat.reduceSub, Array.replicate_succ, Array.replicate_zero, List.push_toArray, List.append_toArray, List.nil_append, List.cons_append]
  gi_wp2_with (refine ⟨trivial, ?_⟩; gi_at_call 218; refine (callsIn_wide.2 (HMem.out _)).mono ?_; rintro e w' ⟨rfl, rfl⟩)
  have bO := Boxed.new w 96 (.slice none 0 0)
  have bN := Boxed.new (w.alloc (.cells #[.slice none 0 0] 96)) 27 (.int .i64 M)
  rw [World.size_alloc] at bN
  have hB0 : Below w.heap.size w ((w.alloc (.cells #[.slice none 0 0] 96)).alloc (.cells #[.int .i64 M] 27)) := ((Below.refl _ w).alloc (Nat.le_refl _) _).alloc (by simp) _
  refine wpIn_rangeFunc_ownG rfl (by omega) (gf := 219) (lb := #[.pointer (some ⟨w.heap.size + 1, 0, none⟩)]) rfl trivial (enters_of Tryz.func219 (by kernel_rfl) rfl)
    (ids_stops (3 - 1) (by omega) (w.heap.size + 1) w.heap.size M _ bN) (Kp := IdKeep w.heap.size (w.heap.size + 1)) idKeep_t (fun W l o o' hl hlo hc hwk => ⟨belowK_b (w := (w.alloc (.cells #[.slice none 0 0] 96)).alloc (.cells #[.int .i64 M] 27)) (by simp; omega) W l o o' hl hlo hc hwk, (grownBy_putObj' W l o').block _ (by have := (Array.getElem?_eq_some_iff.1 hlo).1; simp at hl; omega) (fun e => by cases e; rw [World.size_alloc, World.size_alloc] at hl; omega)⟩) (Below.refl _ _) (by intro x; rfl)
    (fun pre W => ((∃ v, Boxed W w.heap.size 96 v ∧ W.ownsRow w.heap.size 3 1 v pre.length (pre.map fun i : Nat => Value.int .i64 (i : Int)) ∧ True) ∧ Boxed W (w.heap.size + 1) 27 (.int .i64 M)) ∧ Below w.heap.size w W)
    (fun _ _ _ => False)
    (OwnFrom.and (OwnFrom.and (Own.from (holdsRow_own w.heap.size w.heap.size 96 3 1 (fun pre : List Nat => pre.length) (fun pre => pre.map fun i : Nat => Value.int .i64 (i : Int)) (fun _ _ => True)) _) (Own.from (boxed_own (w.heap.size + 1) 27 (fun _ => .int .i64 M)) _)) (ownFrom_below (Nat.le_refl _) (by simp; omega)))
    (fun _ _ _ _ _ hs _ _ => hs)
    ⟨⟨⟨_, bO.alloc _, World.ownsRow_nil _ _ _ _, trivial⟩, bN⟩, hB0⟩
    (fun x => { tmps := #[.int .i64 M, undef, .slice none 0 0, .pointer (some ⟨w.heap.size, 0, none⟩), .int .i64 (x : Int), .int .i64 M, .func (.func 219) #[] #[.pointer (some ⟨w.heap.size + 1, 0, none⟩)], .int .i64 (x : Int), undef, undef, undef, undef, undef], defers := [] }) ?assign ?body ?done ?stop
  case assign =>
    intro l x W K hK
    gi_wp2
    exact hK
  case body =>
    rintro l pre x W ⟨⟨⟨v, hv, hrow, _⟩, hm⟩, hB⟩ hlt
    have hc := hv.cell
    gi_wp2_with (gi_at_builtin; refine wpListIn_append_own _ rfl _ _ 96 rfl w.heap.size 3 i0 (.int .i64 0) 1 8 Tryz.underlying96 hi hz0 hz1 hz2 rfl (by decide) _ _ _ rfl (hrow.alloc _) ⟨W.heap.size, 0, none⟩ 1 1 [.int .i64 (x : Int)] rfl rfl (cell_one_new _ _ _) (by simp [Value.oneCell']) (by unfold maxLen; omega) (by omega) (by have := hB.size; simp; omega) ?_; intro v' w1 hown' hgrow _; obtain ⟨g', cap', rfl⟩ := ownsRow_succ hown'; obtain ⟨hv1, hv2, hr2, hk2, hb2⟩ := hv.appended (by decide) hrow hB.size (Nat.le_refl _) hown' hgrow; have hc1 := hv1.cell; have hf1 := hv1.frozen)
    have hm1 : Boxed w1 (w.heap.size + 1) 27 (.int .i64 M) := (hm.alloc _).kept hgrow (hm.not_row (by decide) hrow)
    have hm2 := hm1.other (B' := w.heap.size) (by omega) (.slice (some ⟨g', 0, none⟩) (pre.length + 1) cap')
    exact ⟨hk2.from _, ⟨hb2, hm2.trans hm.symm⟩, ⟨⟨_, hv2, by simpa using hr2, trivial⟩, hm2⟩, hB.trans hb2⟩
  case done =>
    rintro D ys W hD rfl ⟨⟨⟨v, hv, hrow, _⟩, hm⟩, hB⟩ hK
    have hc := hv.cell
    gi_wp2
    refine ⟨by simp, .inl ⟨_, _, rfl, run_takeDeferred hK, ?_⟩⟩
    exact ⟨_, results_tmp rfl _ _ _, v, rfl, ownsRow_putObj hrow _ hK rfl, hB.trans (belowK_b (w := w) (Nat.le_refl _) W D _ _ (by simp at hD; omega) hK rfl rfl)⟩
  case stop =>
    rintro D c pre W _ _ h _
    exact h.elim
end Go.Proofs.YthmecidpjlaonaaGreat
