/-
  merkle.split, single and Depth (for 32 names), and the reference's, return what the document names, and change nothing. Condition: the number of names is a power of two.
  merkle.Depth (for 32 names), and the reference's, return 5, and change nothing. Condition: the position is below 32.
-/
import Derived.Test.YthmecidpjlaonaaGreatSGTag
namespace Go.Proofs.YthmecidpjlaonaaGreat
open Go.RowKit

theorem ret_i {a b : Int} (h : a = b) : Ending.returned (.int .i64 a) = .returned (.int .i64 b) := by rw [h]
set_option maxRecDepth 100000 in
set_option maxHeartbeats 1000000 in
theorem split_pow (d n : Nat) (w : World) (hn : n = 2 ^ (d + 1)) (hd : d ≤ 40) :
    Calls Tryz.prog 189 #[.int .i64 (n : Int)] w fun e w' => e = .returned (.int .i64 ((2 ^ d : Nat) : Int)) ∧ w' = w := by
  have hb : n ≤ 2 ^ 41 := by rw [hn]; exact Nat.pow_le_pow_right (by omega) (by omega)
  have hb' : n ≤ 2199023255552 := hb
  have HN := Lib.hid hn; clear hn hb
  go_enter Tryz.func189, Tryz.ntmps189
  go_wp2
  go_loop [3] (fun v => ∃ e : Nat, e ≤ d ∧ v = .int .i64 ((2 ^ e : Nat) : Int)) (fun v => n - (intOf v).toNat)
  case atStart => exact ⟨0, by omega, rfl⟩
  case round =>
    obtain ⟨e, he, rfl⟩ := hrel
    obtain ⟨q, hq⟩ : ∃ q, q = 2 ^ e := ⟨_, rfl⟩
    have hpos : 1 ≤ q := by rw [hq]; exact Nat.one_le_two_pow
    rw [← hq]
    by_cases hlt : e < d
    · have h1 : 2 * (2 * q) ≤ n := by
        rw [HN.out, hq]
        have h2 : 2 ^ (e + 1 + 1) ≤ 2 ^ (d + 1) := Nat.pow_le_pow_right (by omega) (by omega)
        have e1 : 2 ^ (e + 1 + 1) = 2 * (2 * 2 ^ e) := by rw [Nat.pow_succ, Nat.pow_succ]; omega
        omega
      have HQ := Lib.hid hq; clear hq
      go_wp2
      go_round
      case rel => exact ⟨e + 1, by omega, by rw [Nat.pow_succ, ← HQ.out]; go_num⟩
      case measure => simp [intOf]; omega
    · obtain rfl : e = d := by omega
      have h1 : n = 2 * q := by rw [HN.out, hq, Nat.pow_succ]; omega
      have h2 : n ≤ 2 * q := by omega
      have h3 : 2 * q ≤ n := by omega
      have hd : decide ((q : Int) < (n : Int) - (q : Int)) = false := by simp; omega
      have HQ := Lib.hid hq; clear hq h1
      go_wp2
      go_ret
      exact ⟨ret_i (congrArg (fun z : Nat => (z : Int)) HQ.out), rfl⟩
/-- The hash of one name as a tree. -/
def leafF (n : Nm) : Nm := sumF (17 :: n.bytes)
set_option maxRecDepth 100000 in
set_option maxHeartbeats 1000000 in
theorem single_core (n r : Nm) (w : World) (hsum : sumF (17 :: n.bytes) = r) :
    Calls Tryz.prog 190 #[n.val] w (NmPost w r) := by
  have HS := Lib.hid hsum; clear hsum
  go_enter Tryz.func190, Tryz.ntmps190
  go_wp2_with fail
  have hX : Blk ((w.alloc (Obj.cells n.cells 29)).alloc (Obj.cells #[.int .u8 0, .int .u8 0, .int .u8 0, .int .u8 0, .int .u8 0, .int .u8 0, .int .u8 0, .int .u8 0] 29)) w.heap.size 29 n.cells := (Blk.new w _ _).alloc _
  have hR : Blk ((w.alloc (Obj.cells n.cells 29)).alloc (Obj.cells #[.int .u8 0, .int .u8 0, .int .u8 0, .int .u8 0, .int .u8 0, .int .u8 0, .int .u8 0, .int .u8 0] 29)) (w.heap.size + 1) 29 #[.int .u8 0, .int .u8 0, .int .u8 0, .int .u8 0, .int .u8 0, .int .u8 0, .int .u8 0, .int .u8 0] := by
    have := Blk.new (w.alloc (Obj.cells n.cells 29)) 29 #[.int .u8 0, .int .u8 0, .int .u8 0, .int .u8 0, .int .u8 0, .int .u8 0, .int .u8 0, .int .u8 0]
    simpa using this
  have hbW : Below w.heap.size w ((w.alloc (Obj.cells n.cells 29)).alloc (Obj.cells #[.int .u8 0, .int .u8 0, .int .u8 0, .int .u8 0, .int .u8 0, .int .u8 0, .int .u8 0, .int .u8 0] 29)) := ((Below.refl _ _).alloc (Nat.le_refl _) _).alloc (by simp) _
  generalize ((w.alloc (Obj.cells n.cells 29)).alloc (Obj.cells #[.int .u8 0, .int .u8 0, .int .u8 0, .int .u8 0, .int .u8 0, .int .u8 0, .int .u8 0, .int .u8 0] 29)) = W at *
  have hrd : Rd W W.heap.size (some ⟨w.heap.size, 0, none⟩) (n.bytes.map B) := by
    have h := Rd.of_blk hX 0 8
    simpa [Nm.bytes] using h
  have hcall : Calls Tryz.prog 96 #[.int .u8 17, .slice (some ⟨w.heap.size, 0, none⟩) 8 8] W (NmPost W r) := tagged_core 17 _ 8 n.bytes r W hrd (by simp [Nm.bytes]) HS.out
  refine hcall.mono ?_
  clear hcall hrd hX
  rintro en w5 ⟨rfl, hb5⟩
  have hZ5 := hR.below hb5 hR.lt
  have hbw5 := hbW.trans (hb5.mono hbW.size)
  clear hR hbW hb5
  go_wp2_with (refine wpList_store_blk rfl 29 (.tmp 2) (.tmp 4) rfl (w.heap.size + 1) _ rfl rfl 29 _ hZ5 rfl size_name ?s2 ?_)
  case s2 => exact ⟨rfl, rfl, rfl, rfl, rfl, rfl, rfl, rfl⟩
  intro w6 hZ6 hg6 hs6
  have hbw6 : Below w.heap.size w w6 := hbw5.grown hg6 hbw5.size (by rintro j ⟨⟩; omega)
  go_wp2
  exact bodyPost_ret (results_cell_row (g := w.heap.size + 1) rfl _ _ _ _ _ _ rfl hZ6 Tryz.underlying29 rfl size_name) rfl ⟨rfl, hbw6⟩
end Go.Proofs.YthmecidpjlaonaaGreat
namespace Go.Proofs.YthmecidpjlaonaaGreat
open Go.RowKit

set_option maxRecDepth 100000 in
set_option maxHeartbeats 1000000 in
theorem depth32 (i : Nat) (w : World) (hi : i < 32) : Calls Tryz.prog 163 #[.int .i64 (i : Int), .int .i64 32] w fun e w' => e = .returned (.int .i64 5) ∧ w' = w := by
  go_enter Tryz.func163, Tryz.ntmps163
  go_wp2
  go_loop [0, 1, 5, 6] (fun vi vn vd _ => ∃ e j n : Nat, e ≤ 5 ∧ Hid (n = 2 ^ e) ∧ j < n ∧ n ≤ 32 ∧ vi = .int .i64 (j : Int) ∧ vn = .int .i64 (n : Int) ∧ vd = .int .i64 ((5 - e : Nat) : Int)) (fun _ vn _ _ => (intOf vn).toNat)
  case atStart => exact ⟨5, i, 32, by omega, rfl, by omega, by omega, rfl, rfl, rfl⟩
  case round =>
    obtain ⟨e, j, n, he, Hn, hj, hn32, rfl, rfl, rfl⟩ := hrel
    cases e with
    | zero =>
      obtain rfl : n = 1 := Hn.out
      go_wp2
      go_ret
      exact ⟨rfl, rfl⟩
    | succ e =>
      obtain ⟨k, hk⟩ : ∃ k, k = 2 ^ e := ⟨_, rfl⟩
      have h2 : n = 2 * k := by rw [Hn.out, hk, Nat.pow_succ]; omega
      have hk1 : 1 ≤ k := by rw [hk]; exact Nat.one_le_two_pow
      have hcall : Calls Tryz.prog 189 #[.int .i64 (n : Int)] w fun en w' => en = .returned (.int .i64 (k : Int)) ∧ w' = w := by
        rw [hk]; exact split_pow e n w Hn.out (by omega)
      have HC := Lib.hid hcall; clear hcall
      have HK := Lib.hid hk; clear hk
      have h3 : n ≤ 2 * k := by omega
      have h4 : 2 * k ≤ n := by omega
      clear h2
      by_cases hjk : j < k
      · go_wp2_with ((go_at_call 189; refine HC.out.mono ?_; rintro en w' ⟨rfl, rfl⟩))
        go_round
        case rel => exact ⟨e, j, k, by omega, HK, hjk, by omega, rfl, rfl, by rw [Value.int.injEq]; exact ⟨rfl, by omega⟩⟩
        case measure => simp [intOf]; omega
      · go_wp2_with ((go_at_call 189; refine HC.out.mono ?_; rintro en w' ⟨rfl, rfl⟩))
        go_round
        case rel => exact ⟨e, j - k, k, by omega, HK, by omega, by omega, by go_num, by go_num, by rw [Value.int.injEq]; exact ⟨rfl, by omega⟩⟩
        case measure => simp [intOf]; omega

end Go.Proofs.YthmecidpjlaonaaGreat
