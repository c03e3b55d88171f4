/-
  The mixing steps of the hash, in the program and in the reference, compute mixF. Condition: the state's block is known.
-/
import Derived.Test.YthmecidpjlaonaaGreatMem
import Derived.Deep.RegionHeld3
import Derived.RegionTactic
import Derived.StillTailTactics
import Derived.BigQuiet
import Derived.Deep.QuietTactic
namespace Go.Proofs.YthmecidpjlaonaaGreat
open Go.RowKit
def rotl (v k : UInt64) : UInt64 := v <<< k ||| v >>> (64 - k)

theorem rotl13 (v : UInt64) : bits BinOp.or IntKind.u64 (IntKind.u64.wrap ((v.toNat : Int) * 8192)) ((v.toNat : Int) / 2251799813685248) = ((rotl v 13).toNat : Int) := by
  have h1 : IntKind.u64.wrap ((v.toNat : Int) * 8192) = ((v <<< (13 : UInt64)).toNat : Int) := by
    rw [UInt64.toNat_shiftLeft, IntKind.wrap_u64]
    simp only [show ((13 : UInt64).toNat % 64) = 13 from rfl, Nat.shiftLeft_eq]; omega
  have h2 : ((v.toNat : Int) / 2251799813685248) = ((v >>> (64 - 13 : UInt64)).toNat : Int) := by
    rw [UInt64.toNat_shiftRight]
    simp only [show ((64 - 13 : UInt64).toNat % 64) = 51 from rfl, Nat.shiftRight_eq_div_pow]; omega
  rw [h1, h2, u_or]; rfl
theorem rotl32 (v : UInt64) : bits BinOp.or IntKind.u64 (IntKind.u64.wrap ((v.toNat : Int) * 4294967296)) ((v.toNat : Int) / 4294967296) = ((rotl v 32).toNat : Int) := by
  have h1 : IntKind.u64.wrap ((v.toNat : Int) * 4294967296) = ((v <<< (32 : UInt64)).toNat : Int) := by
    rw [UInt64.toNat_shiftLeft, IntKind.wrap_u64]
    simp only [show ((32 : UInt64).toNat % 64) = 32 from rfl, Nat.shiftLeft_eq]; omega
  have h2 : ((v.toNat : Int) / 4294967296) = ((v >>> (64 - 32 : UInt64)).toNat : Int) := by
    rw [UInt64.toNat_shiftRight]
    simp only [show ((64 - 32 : UInt64).toNat % 64) = 32 from rfl, Nat.shiftRight_eq_div_pow]; omega
  rw [h1, h2, u_or]; rfl

theorem ret_u {a b : Int} (h : a = b) : Ending.returned (.int .u64 a) = .returned (.int .u64 b) := by rw [h]
set_option maxHeartbeats 400000 in
theorem rot13 (v : UInt64) (w : World) :
    Calls Tryz.prog 192 #[U v, .int .i64 13] w fun e w' => e = .returned (U (rotl v 13)) ∧ w' = w := by
  have hb : bits BinOp.and IntKind.u64 13 63 = 13 := by decide +kernel
  go_enter Tryz.func192, Tryz.ntmps192
  go_wp2
  go_ret
  exact ⟨ret_u (rotl13 v), rfl⟩
set_option maxHeartbeats 400000 in
theorem rot32 (v : UInt64) (w : World) :
    Calls Tryz.prog 192 #[U v, .int .i64 32] w fun e w' => e = .returned (U (rotl v 32)) ∧ w' = w := by
  have hb : bits BinOp.and IntKind.u64 32 63 = 32 := by decide +kernel
  go_enter Tryz.func192, Tryz.ntmps192
  go_wp2
  go_ret
  exact ⟨ret_u (rotl32 v), rfl⟩
theorem rref13 (v : UInt64) (w : World) :
    Calls Tryz.prog 188 #[U v, .int .u64 13] w fun e w' => e = .returned (U (rotl v 13)) ∧ w = w' := by
  go_enter Tryz.func188, Tryz.ntmps188
  go_wp2
  go_ret
  exact ⟨ret_u (rotl13 v), rfl⟩
theorem rref32 (v : UInt64) (w : World) :
    Calls Tryz.prog 188 #[U v, .int .u64 32] w fun e w' => e = .returned (U (rotl v 32)) ∧ w = w' := by
  go_enter Tryz.func188, Tryz.ntmps188
  go_wp2
  go_ret
  exact ⟨ret_u (rotl32 v), rfl⟩

def mixF (s : UInt64 × UInt64) : UInt64 × UInt64 := (rotl (s.1 + s.2) 32 * 0x9e3779b97f4a7c15, rotl s.2 13 ^^^ (s.1 + s.2))
theorem mul_mix (x : UInt64) : IntKind.u64.wrap ((x.toNat : Int) * 11400714819323198485) = ((x * 0x9e3779b97f4a7c15).toNat : Int) := by
  rw [IntKind.wrap_u64, UInt64.toNat_mul, show (0x9e3779b97f4a7c15 : UInt64).toNat = 11400714819323198485 from rfl]; omega
set_option maxHeartbeats 400000 in
theorem mixr (x y : UInt64) (w : World) :
    Calls Tryz.prog 158 #[U x, U y] w fun e w' => e = .returned (.tuple #[U (mixF (x, y)).1, U (mixF (x, y)).2]) ∧ w = w' := by
  go_enter Tryz.func158, Tryz.ntmps158
  go_wp2_with fail
  refine (rref13 _ _).mono ?_; rintro e w' ⟨rfl, rfl⟩
  go_wp2_with fail
  simp only [u_add, u_xor]
  refine (rref32 _ _).mono ?_; rintro e w' ⟨rfl, rfl⟩
  go_wp2_with fail
  simp only [mul_mix]
  go_ret2
  exact ⟨rfl, rfl⟩

def mixN : Nat → UInt64 × UInt64 → UInt64 × UInt64
  | 0, s => s
  | n + 1, s => mixF (mixN n s)

set_option maxRecDepth 100000 in
set_option maxHeartbeats 1000000 in
theorem mix_any (n : Nat) (x y : UInt64) (b : Nat) (w : World) (hn : n ≤ 1000) (hb : Blk w b 185 #[U x, U y]) :
    Calls Tryz.prog 166 #[.pointer (some ⟨b, 0, none⟩), .int .i64 n] w fun e w' => e = .returned (.tuple #[]) ∧
      Blk w' b 185 #[U (mixN n (x, y)).1, U (mixN n (x, y)).2] ∧ w.grownBy w' (some b) ∧ w'.heap.size = w.heap.size := by
  go_enter Tryz.func166, Tryz.ntmps166
  go_wp2
  go_loopw [5] (fun i wr => ∃ k : Nat, k ≤ n ∧ i = .int .i64 k ∧ Blk wr b 185 #[U (mixN k (x, y)).1, U (mixN k (x, y)).2] ∧ w.grownBy wr (some b) ∧ wr.heap.size = w.heap.size)
    (fun i _ => n - (intOf i).toNat)
  case atStart => exact ⟨0, Nat.zero_le _, rfl, hb, one_refl _ _, rfl⟩
  case round =>
    obtain ⟨k, hk, rfl, hB, hg, hs⟩ := hrel
    by_cases hlt : k < n
    · have hsucc : mixN (k + 1) (x, y) = mixF (mixN k (x, y)) := rfl
      have Hs := Lib.hid hsucc; clear hsucc
      generalize hm : mixN k (x, y) = s at *
      obtain ⟨a, c⟩ := s
      have Hm := Lib.hid hm; clear hm
      have c0 := hB.cell 0
      have c1 := hB.cell 1
      have f0 := hB.frozen 0
      have f1 := hB.frozen 1
      simp at c0 c1
      go_wp2
      go_region
      simp only [u_add]
      generalize hsum : a + c = s at *
      have Hsum := Lib.hid hsum; clear hsum
      have hB2 := (hB.put 0 (U s)).drew
      have hg2 := one_drew (one_put hg (p := ⟨b, 0, none⟩) rfl (U s))
      have hs2 : ((wr.setCell ⟨b, 0, none⟩ (U s)).drew).heap.size = w.heap.size := by simpa [World.setCell] using hs
      generalize (World.setCell wr ⟨b, 0, none⟩ (U s)).drew = w2 at *
      clear hB hg hs c0 c1 f0 f1
      have c0 := hB2.cell 0
      have c1 := hB2.cell 1
      have f0 := hB2.frozen 0
      have f1 := hB2.frozen 1
      simp at c0 c1
      go_wp2
      refine wp_region_still_tail 11 (by kernel_rfl) (by kernel_rfl) ?_
      simp only [List.take_succ_cons, List.take_zero, List.drop_succ_cons, List.drop_zero]
      iterate 5 still_step
      still_call (rot13 _ _)
      iterate 5 still_step
      refine wpStill_nil ?_
      change wpList _ _ _ _ _ w2.drew
      go_wp2_with fail
      simp only [u_xor]
      generalize hx2 : rotl c 13 ^^^ s = y2 at *
      have Hx2 := Lib.hid hx2; clear hx2
      have hB3 := (hB2.put 1 (U y2)).drew
      have hg3 := one_drew (one_put hg2 (p := ⟨b, 1, none⟩) rfl (U y2))
      have hs3 : ((w2.setCell ⟨b, 1, none⟩ (U y2)).drew).heap.size = w.heap.size := by simpa [World.setCell] using hs2
      generalize (w2.setCell ⟨b, 1, none⟩ (U y2)).drew = w3 at *
      clear hB2 hg2 hs2 c0 c1 f0 f1
      have c0 := hB3.cell 0
      have c1 := hB3.cell 1
      have f0 := hB3.frozen 0
      simp at c0 c1
      refine (rot32 _ _).mono ?_; rintro e w' ⟨rfl, rfl⟩
      go_wp2_with fail
      simp only [mul_mix]
      go_roundw
      case rel =>
        refine ⟨k + 1, by omega, by go_num, ?_, ?_, ?_⟩
        · rw [Hs.out]
          have := hB3.put 0 (U (rotl s 32 * 0x9e3779b97f4a7c15))
          simp only [mixF, Hsum.out, Hx2.out]
          exact this
        · exact one_put hg3 rfl _
        · simpa [World.setCell] using hs3
      case measure => simp [intOf]; omega
    · obtain rfl : k = n := by omega
      go_wp2
      go_end0
      exact ⟨rfl, hB, hg, hs⟩
end Go.Proofs.YthmecidpjlaonaaGreat
