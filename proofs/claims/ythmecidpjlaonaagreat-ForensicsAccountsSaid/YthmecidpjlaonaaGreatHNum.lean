/-
  The mixing steps of the hash, in the program and in the reference, compute mixF. Condition: the state's block is known.
  hash.Number, hash.Of and the reference's return the number of a name and the name of a number, and change nothing. No condition.
-/
import Derived.Test.YthmecidpjlaonaaGreatSMem
import Derived.Deep.RegionHeld3
import Derived.RegionTactic
import Derived.StillTailTactics
import Derived.BigQuiet
import Derived.Deep.QuietTactic
import Derived.LoopN
namespace Go.Proofs.YthmecidpjlaonaaGreat
open Go.RowKit
def rotl (v k : UInt64) : UInt64 := v <<< k ||| v >>> (64 - k)

theorem rotl13 (v : UInt64) : bits BinOp.or IntKind.u64 (IntKind.u64.wrap ((v.toNat : Int) * 8192)) ((v.toNat : Int) / 2251799813685248) = ((rotl v 13).toNat : Int) := by
  have h1 : IntKind.u64.wrap ((v.toNat : Int) * 8192) = ((v <<< (13 : UInt64)).toNat : Int) := by
    rw [UInt64.toNat_shiftLeft, IntKind.wrap_u64]
    simp only [show ((13 : UInt64).toNat % 64) = 13 from rfl, Nat.shiftLeft_eq]; omega
  have h2 : ((v.toNat : Int) / 2251799813685248) = ((v >>> (64 - 13 : UInt64)).toNat : Int) := by
    rw [UInt64.toNat_shiftRight]
    simp only [show ((64 - 13 : UInt64).toNat % 64) = 51 from rfl, Nat.shiftRight_eq_div_pow]; omega
  rw [h1, h2, u_or]; rfl
theorem rotl32 (v : UInt64) : bits BinOp.or IntKind.u64 (IntKind.u64.wrap ((v.toNat : Int) * 4294967296)) ((v.toNat : Int) / 4294967296) = ((rotl v 32).toNat : Int) := by
  have h1 : IntKind.u64.wrap ((v.toNat : Int) * 4294967296) = ((v <<< (32 : UInt64)).toNat : Int) := by
    rw [UInt64.toNat_shiftLeft, IntKind.wrap_u64]
    simp only [show ((32 : UInt64).toNat % 64) = 32 from rfl, Nat.shiftLeft_eq]; omega
  have h2 : ((v.toNat : Int) / 4294967296) = ((v >>> (64 - 32 : UInt64)).toNat : Int) := by
    rw [UInt64.toNat_shiftRight]
    simp only [show ((64 - 32 : UInt64).toNat % 64) = 32 from rfl, Nat.shiftRight_eq_div_pow]; omega
  rw [h1, h2, u_or]; rfl

theorem ret_u {a b : Int} (h : a = b) : Ending.returned (.int .u64 a) = .returned (.int .u64 b) := by rw [h]
set_option maxHeartbeats 400000 in
theorem rot13 (v : UInt64) (w : World) :
    Calls Tryz.prog 192 #[U v, .int .i64 13] w fun e w' => e = .returned (U (rotl v 13)) ∧ w' = w := by
  have hb : bits BinOp.and IntKind.u64 13 63 = 13 := by decide +kernel
  go_enter Tryz.func192, Tryz.ntmps192
  go_wp2
  go_ret
  exact ⟨ret_u (rotl13 v), rfl⟩
set_option maxHeartbeats 400000 in
theorem rot32 (v : UInt64) (w : World) :
    Calls Tryz.prog 192 #[U v, .int .i64 32] w fun e w' => e = .returned (U (rotl v 32)) ∧ w' = w := by
  have hb : bits BinOp.and IntKind.u64 32 63 = 32 := by decide +kernel
  go_enter Tryz.func192, Tryz.ntmps192
  go_wp2
  go_ret
  exact ⟨ret_u (rotl32 v), rfl⟩
def mixF (s : UInt64 × UInt64) : UInt64 × UInt64 := (rotl (s.1 + s.2) 32 * 0x9e3779b97f4a7c15, rotl s.2 13 ^^^ (s.1 + s.2))
theorem mul_mix (x : UInt64) : IntKind.u64.wrap ((x.toNat : Int) * 11400714819323198485) = ((x * 0x9e3779b97f4a7c15).toNat : Int) := by
  rw [IntKind.wrap_u64, UInt64.toNat_mul, show (0x9e3779b97f4a7c15 : UInt64).toNat = 11400714819323198485 from rfl]; omega
def mixN : Nat → UInt64 × UInt64 → UInt64 × UInt64
  | 0, s => s
  | n + 1, s => mixF (mixN n s)

set_option maxRecDepth 100000 in
set_option maxHeartbeats 1000000 in
theorem mix_any (n : Nat) (x y : UInt64) (b : Nat) (w : World) (hn : n ≤ 1000) (hb : Blk w b 185 #[U x, U y]) :
    Calls Tryz.prog 166 #[.pointer (some ⟨b, 0, none⟩), .int .i64 n] w fun e w' => e = .returned (.tuple #[]) ∧
      Blk w' b 185 #[U (mixN n (x, y)).1, U (mixN n (x, y)).2] ∧ w.grownBy w' (some b) ∧ w'.heap.size = w.heap.size := by
  go_enter Tryz.func166, Tryz.ntmps166
  go_wp2
  go_loopw [5] (fun i wr => ∃ k : Nat, k ≤ n ∧ i = .int .i64 k ∧ Blk wr b 185 #[U (mixN k (x, y)).1, U (mixN k (x, y)).2] ∧ w.grownBy wr (some b) ∧ wr.heap.size = w.heap.size)
    (fun i _ => n - (intOf i).toNat)
  case atStart => exact ⟨0, Nat.zero_le _, rfl, hb, one_refl _ _, rfl⟩
  case round =>
    obtain ⟨k, hk, rfl, hB, hg, hs⟩ := hrel
    by_cases hlt : k < n
    · have hsucc : mixN (k + 1) (x, y) = mixF (mixN k (x, y)) := rfl
      have Hs := Lib.hid hsucc; clear hsucc
      generalize hm : mixN k (x, y) = s at *
      obtain ⟨a, c⟩ := s
      have Hm := Lib.hid hm; clear hm
      have c0 := hB.cell 0
      have c1 := hB.cell 1
      have f0 := hB.frozen 0
      have f1 := hB.frozen 1
      simp at c0 c1
      go_wp2
      go_region
      simp only [u_add]
      generalize hsum : a + c = s at *
      have Hsum := Lib.hid hsum; clear hsum
      have hB2 := (hB.put 0 (U s)).drew
      have hg2 := one_drew (one_put hg (p := ⟨b, 0, none⟩) rfl (U s))
      have hs2 : ((wr.setCell ⟨b, 0, none⟩ (U s)).drew).heap.size = w.heap.size := by simpa [World.setCell] using hs
      generalize (World.setCell wr ⟨b, 0, none⟩ (U s)).drew = w2 at *
      clear hB hg hs c0 c1 f0 f1
      have c0 := hB2.cell 0
      have c1 := hB2.cell 1
      have f0 := hB2.frozen 0
      have f1 := hB2.frozen 1
      simp at c0 c1
      go_wp2
      refine wp_region_still_tail 11 (by kernel_rfl) (by kernel_rfl) ?_
      simp only [List.take_succ_cons, List.take_zero, List.drop_succ_cons, List.drop_zero]
      iterate 5 still_step
      still_call (rot13 _ _)
      iterate 5 still_step
      refine wpStill_nil ?_
      change wpList _ _ _ _ _ w2.drew
      go_wp2_with fail
      simp only [u_xor]
      generalize hx2 : rotl c 13 ^^^ s = y2 at *
      have Hx2 := Lib.hid hx2; clear hx2
      have hB3 := (hB2.put 1 (U y2)).drew
      have hg3 := one_drew (one_put hg2 (p := ⟨b, 1, none⟩) rfl (U y2))
      have hs3 : ((w2.setCell ⟨b, 1, none⟩ (U y2)).drew).heap.size = w.heap.size := by simpa [World.setCell] using hs2
      generalize (w2.setCell ⟨b, 1, none⟩ (U y2)).drew = w3 at *
      clear hB2 hg2 hs2 c0 c1 f0 f1
      have c0 := hB3.cell 0
      have c1 := hB3.cell 1
      have f0 := hB3.frozen 0
      simp at c0 c1
      refine (rot32 _ _).mono ?_; rintro e w' ⟨rfl, rfl⟩
      go_wp2_with fail
      simp only [mul_mix]
      go_roundw
      case rel =>
        refine ⟨k + 1, by omega, by go_num, ?_, ?_, ?_⟩
        · rw [Hs.out]
          have := hB3.put 0 (U (rotl s 32 * 0x9e3779b97f4a7c15))
          simp only [mixF, Hsum.out, Hx2.out]
          exact this
        · exact one_put hg3 rfl _
        · simpa [World.setCell] using hs3
      case measure => simp [intOf]; omega
    · obtain rfl : k = n := by omega
      go_wp2
      go_end0
      exact ⟨rfl, hB, hg, hs⟩
end Go.Proofs.YthmecidpjlaonaaGreat
namespace Go.Proofs.YthmecidpjlaonaaGreat
open Go.RowKit

/-- The number whose bytes, highest first, are l. -/
def numN (l : List UInt8) : Nat := l.foldl (fun v b => v * 256 + b.toNat) 0
theorem numN_snoc (l : List UInt8) (b : UInt8) : numN (l ++ [b]) = numN l * 256 + b.toNat := by simp [numN]
theorem num_fold_lt : ∀ (l : List UInt8) (v : Nat), l.foldl (fun v b => v * 256 + b.toNat) v < (v + 1) * 256 ^ l.length
  | [], v => by simp
  | b :: r, v => by
    have hb := b.toNat_lt
    have h := num_fold_lt r (v * 256 + b.toNat)
    rw [List.foldl_cons, List.length_cons, Nat.pow_succ]
    refine Nat.lt_of_lt_of_le h ?_
    rw [Nat.mul_comm (256 ^ r.length) 256, ← Nat.mul_assoc]
    exact Nat.mul_le_mul_right _ (by omega)
theorem numN_lt (l : List UInt8) : numN l < 256 ^ l.length := by
  have := num_fold_lt l 0
  simpa [numN] using this

theorem or_add (a b k : Nat) (hb : b < 2 ^ k) (h : 2 ^ k * a + b < 18446744073709551616) : bits .or .u64 ((2 ^ k * a : Nat) : Int) (b : Int) = ((2 ^ k * a + b : Nat) : Int) := by
  show IntKind.u64.wrap ((BitVec.ofInt 64 ((2 ^ k * a : Nat) : Int) ||| BitVec.ofInt 64 (b : Int)).toNat : Int) = _
  rw [BitVec.toNat_or, BitVec.ofInt_natCast, BitVec.ofInt_natCast, BitVec.toNat_ofNat, BitVec.toNat_ofNat, Nat.mod_eq_of_lt (by omega), Nat.mod_eq_of_lt (by omega), ← Nat.two_pow_add_eq_or_of_lt hb, IntKind.wrap_u64]
  omega
theorem or_step (v : Nat) (b : UInt8) (hv : v < 72057594037927936) : bits .or .u64 (IntKind.u64.wrap ((v : Int) * 256)) (IntKind.u64.wrap (b.toNat : Int)) = ((v * 256 + b.toNat : Nat) : Int) := by
  have hb := b.toNat_lt
  have e1 : IntKind.u64.wrap ((v : Int) * 256) = ((2 ^ 8 * v : Nat) : Int) := by rw [IntKind.wrap_u64]; omega
  have e2 : IntKind.u64.wrap (b.toNat : Int) = ((b.toNat : Nat) : Int) := by rw [IntKind.wrap_u64]; omega
  rw [e1, e2, or_add v b.toNat 8 (by omega) (by omega)]
  omega
theorem or_zero (b : UInt8) : bits .or .u64 0 (IntKind.u64.wrap (b.toNat : Int)) = ((b.toNat : Nat) : Int) := by
  have h := or_step 0 b (by omega)
  have z : IntKind.u64.wrap (((0 : Nat) : Int) * 256) = 0 := by rw [IntKind.wrap_u64]; rfl
  rw [z, Nat.zero_mul, Nat.zero_add] at h
  exact h
theorem num_nest (b0 b1 b2 b3 b4 b5 b6 b7 : UInt8) :
    bits .or .u64 (IntKind.u64.wrap (bits .or .u64 (IntKind.u64.wrap (bits .or .u64 (IntKind.u64.wrap (bits .or .u64 (IntKind.u64.wrap (bits .or .u64 (IntKind.u64.wrap (bits .or .u64 (IntKind.u64.wrap (bits .or .u64 (IntKind.u64.wrap (bits .or .u64 0 (IntKind.u64.wrap (b0.toNat : Int)) * 256)) (IntKind.u64.wrap (b1.toNat : Int)) * 256)) (IntKind.u64.wrap (b2.toNat : Int)) * 256)) (IntKind.u64.wrap (b3.toNat : Int)) * 256)) (IntKind.u64.wrap (b4.toNat : Int)) * 256)) (IntKind.u64.wrap (b5.toNat : Int)) * 256)) (IntKind.u64.wrap (b6.toNat : Int)) * 256)) (IntKind.u64.wrap (b7.toNat : Int))
      = ((numN [b0, b1, b2, b3, b4, b5, b6, b7] : Nat) : Int) := by
  have h0 := b0.toNat_lt; have h1 := b1.toNat_lt; have h2 := b2.toNat_lt; have h3 := b3.toNat_lt
  have h4 := b4.toNat_lt; have h5 := b5.toNat_lt; have h6 := b6.toNat_lt
  rw [or_zero, or_step _ b1 (by omega), or_step _ b2 (by omega), or_step _ b3 (by omega), or_step _ b4 (by omega), or_step _ b5 (by omega), or_step _ b6 (by omega), or_step _ b7 (by omega)]
  simp [numN]

theorem ix0 (a b c d e f g h : Value) (w : World) : (Instr.index 29 (.agg #[a, b, c, d, e, f, g, h]) (.int .i64 0)).run Tryz.prog w = .ok a w := by kernel_rfl
theorem ix1 (a b c d e f g h : Value) (w : World) : (Instr.index 29 (.agg #[a, b, c, d, e, f, g, h]) (.int .i64 1)).run Tryz.prog w = .ok b w := by kernel_rfl
theorem ix2 (a b c d e f g h : Value) (w : World) : (Instr.index 29 (.agg #[a, b, c, d, e, f, g, h]) (.int .i64 2)).run Tryz.prog w = .ok c w := by kernel_rfl
theorem ix3 (a b c d e f g h : Value) (w : World) : (Instr.index 29 (.agg #[a, b, c, d, e, f, g, h]) (.int .i64 3)).run Tryz.prog w = .ok d w := by kernel_rfl
theorem ix4 (a b c d e f g h : Value) (w : World) : (Instr.index 29 (.agg #[a, b, c, d, e, f, g, h]) (.int .i64 4)).run Tryz.prog w = .ok e w := by kernel_rfl
theorem ix5 (a b c d e f g h : Value) (w : World) : (Instr.index 29 (.agg #[a, b, c, d, e, f, g, h]) (.int .i64 5)).run Tryz.prog w = .ok f w := by kernel_rfl
theorem ix6 (a b c d e f g h : Value) (w : World) : (Instr.index 29 (.agg #[a, b, c, d, e, f, g, h]) (.int .i64 6)).run Tryz.prog w = .ok g w := by kernel_rfl
theorem ix7 (a b c d e f g h : Value) (w : World) : (Instr.index 29 (.agg #[a, b, c, d, e, f, g, h]) (.int .i64 7)).run Tryz.prog w = .ok h w := by kernel_rfl
attribute [local go_sem] ix0 ix1 ix2 ix3 ix4 ix5 ix6 ix7
/-- The call returns a number, and leaves what was there. -/
def NumPost (w : World) (x : Nat) (e : Ending) (w' : World) : Prop := e = .returned (.int .u64 (x : Int)) ∧ Below w.heap.size w w'
set_option maxRecDepth 100000 in
set_option maxHeartbeats 1000000 in
theorem number_any (n : Nm) (w : World) : Calls Tryz.prog 122 #[n.val] w (NumPost w (numN n.bytes)) := by
  go_enter Tryz.func122, Tryz.ntmps122
  go_wp2
  refine wp_loop_rounds 9 ?_
  iterate 9 (rw [rounds_succ]; go_wp2)
  go_ret
  exact ⟨ret_u (num_nest n.b0 n.b1 n.b2 n.b3 n.b4 n.b5 n.b6 n.b7), (Below.refl _ _).alloc (Nat.le_refl _) _⟩
def bt (v k : Nat) : UInt8 := UInt8.ofNat (v / 256 ^ k)
/-- The name of a number. -/
def ofN (v : Nat) : Nm := ⟨bt v 7, bt v 6, bt v 5, bt v 4, bt v 3, bt v 2, bt v 1, bt v 0⟩
theorem bt_val (v k p : Nat) (hp : 256 ^ k = p) : B (bt v k) = .int .u8 ((v : Int) / (p : Int) % 256) := by
  subst hp
  rw [Value.int.injEq]
  refine ⟨rfl, ?_⟩
  simp [bt]
theorem bt_val0 (v : Nat) : B (bt v 0) = .int .u8 ((v : Int) % 256) := by
  simp [bt]
theorem ofN_val (v : Nat) : (ofN v).val = .agg #[.int .u8 ((v : Int) / 72057594037927936 % 256), .int .u8 ((v : Int) / 281474976710656 % 256), .int .u8 ((v : Int) / 1099511627776 % 256), .int .u8 ((v : Int) / 4294967296 % 256), .int .u8 ((v : Int) / 16777216 % 256), .int .u8 ((v : Int) / 65536 % 256), .int .u8 ((v : Int) / 256 % 256), .int .u8 ((v : Int) % 256)] := by
  simp only [Nm.val, ofN]
  rw [bt_val v 7 72057594037927936 (by decide), bt_val v 6 281474976710656 (by decide), bt_val v 5 1099511627776 (by decide), bt_val v 4 4294967296 (by decide), bt_val v 3 16777216 (by decide), bt_val v 2 65536 (by decide), bt_val v 1 256 (by decide), bt_val0]
  rfl
/-- The call returns a name, and leaves what was there. -/
def NmPost (w : World) (n : Nm) (e : Ending) (w' : World) : Prop := e = .returned n.val ∧ Below w.heap.size w w'
set_option maxRecDepth 100000 in
set_option maxHeartbeats 1000000 in
theorem of_any (v : Nat) (w : World) : Calls Tryz.prog 167 #[.int .u64 (v : Int)] w (NmPost w (ofN v)) := by
  go_enter Tryz.func167, Tryz.ntmps167
  go_wp2
  refine bodyPost_ret (results_cell_row (g := w.heap.size) rfl _ _ _ _ _ _ rfl (heap_alloc_new w _) Tryz.underlying29 rfl (by kernel_rfl)) rfl ⟨?_, (Below.refl _ _).alloc (Nat.le_refl _) _⟩
  rw [ofN_val]
end Go.Proofs.YthmecidpjlaonaaGreat
