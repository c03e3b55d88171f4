/-
  hash.word and the reference's word return the number of the first 8 bytes, with zeros behind the last one, and change nothing. Condition: the bytes lie in memory below the call.
  hash.word and the reference's word return the number of the first 8 bytes, with zeros behind the last one, and change nothing. Condition: the bytes lie in memory below the call.
  hash.word and the reference's word return the number of the first 8 bytes, with zeros behind the last one, and change nothing. Condition: the bytes lie in memory below the call.
-/
import Derived.Test.YthmecidpjlaonaaGreatHNum
import Derived.Test.YthmecidpjlaonaaGreatHMem2
import Derived.Test.YthmecidpjlaonaaGreatSCodec
import Derived.Test.YthmecidpjlaonaaGreatSSg
import Derived.BigQuiet
import Derived.Deep.QuietTactic
import Derived.Laws.CopyOwn
namespace Go.Proofs.YthmecidpjlaonaaGreat
open Go.RowKit

/-- The first 8 bytes, with zeros behind the last one. -/
def pad8 (l : List UInt8) : List UInt8 := (l ++ [0, 0, 0, 0, 0, 0, 0, 0]).take 8
def wordN (l : List UInt8) : Nat := numN (pad8 l)

theorem or_add' (x y k : Nat) (hx : x % 2 ^ k = 0) (hy : y < 2 ^ k) (h : x + y < 18446744073709551616) : bits .or .u64 (x : Int) (y : Int) = ((x + y : Nat) : Int) := by
  have e : x = 2 ^ k * (x / 2 ^ k) := by have := Nat.div_add_mod x (2 ^ k); omega
  have := or_add (x / 2 ^ k) y k hy (by rw [← e]; exact h)
  rw [← e] at this
  exact this
theorem sh_val (b : UInt8) (p : Nat) (hp : 256 * p ≤ 18446744073709551616) : IntKind.u64.wrap (IntKind.u64.wrap (b.toNat : Int) * (p : Int)) = ((b.toNat * p : Nat) : Int) := by
  have hb := b.toNat_lt
  have h1 : b.toNat * p < 256 * p ∨ p = 0 := by
    rcases Nat.eq_zero_or_pos p with h | h
    · exact .inr h
    · exact .inl (Nat.mul_lt_mul_of_pos_right hb h)
  have e1 : IntKind.u64.wrap (b.toNat : Int) = (b.toNat : Int) := by rw [IntKind.wrap_u64]; omega
  have e2 : (b.toNat : Int) * (p : Int) = ((b.toNat * p : Nat) : Int) := (Int.natCast_mul ..).symm
  rw [e1, e2, IntKind.wrap_u64]
  rcases h1 with h1 | h1
  · omega
  · subst h1; simp
theorem sh_last (b : UInt8) : IntKind.u64.wrap (b.toNat : Int) = ((b.toNat : Nat) : Int) := by
  have hb := b.toNat_lt
  rw [IntKind.wrap_u64]; omega
theorem nest8 (b0 b1 b2 b3 b4 b5 b6 b7 : UInt8) : (bits .or .u64 (bits .or .u64 (bits .or .u64 (bits .or .u64 (bits .or .u64 (bits .or .u64 (bits .or .u64 (IntKind.u64.wrap (IntKind.u64.wrap (b0.toNat : Int) * 72057594037927936)) (IntKind.u64.wrap (IntKind.u64.wrap (b1.toNat : Int) * 281474976710656))) (IntKind.u64.wrap (IntKind.u64.wrap (b2.toNat : Int) * 1099511627776))) (IntKind.u64.wrap (IntKind.u64.wrap (b3.toNat : Int) * 4294967296))) (IntKind.u64.wrap (IntKind.u64.wrap (b4.toNat : Int) * 16777216))) (IntKind.u64.wrap (IntKind.u64.wrap (b5.toNat : Int) * 65536))) (IntKind.u64.wrap (IntKind.u64.wrap (b6.toNat : Int) * 256))) (IntKind.u64.wrap (b7.toNat : Int))) = ((wordN [b0, b1, b2, b3, b4, b5, b6, b7] : Nat) : Int) := by
  have h0 := b0.toNat_lt
  have h1 := b1.toNat_lt
  have h2 := b2.toNat_lt
  have h3 := b3.toNat_lt
  have h4 := b4.toNat_lt
  have h5 := b5.toNat_lt
  have h6 := b6.toNat_lt
  have h7 := b7.toNat_lt
  have e0 : IntKind.u64.wrap (IntKind.u64.wrap (b0.toNat : Int) * 72057594037927936) = ((b0.toNat * 72057594037927936 : Nat) : Int) := sh_val b0 72057594037927936 (by decide)
  have e1 : IntKind.u64.wrap (IntKind.u64.wrap (b1.toNat : Int) * 281474976710656) = ((b1.toNat * 281474976710656 : Nat) : Int) := sh_val b1 281474976710656 (by decide)
  have e2 : IntKind.u64.wrap (IntKind.u64.wrap (b2.toNat : Int) * 1099511627776) = ((b2.toNat * 1099511627776 : Nat) : Int) := sh_val b2 1099511627776 (by decide)
  have e3 : IntKind.u64.wrap (IntKind.u64.wrap (b3.toNat : Int) * 4294967296) = ((b3.toNat * 4294967296 : Nat) : Int) := sh_val b3 4294967296 (by decide)
  have e4 : IntKind.u64.wrap (IntKind.u64.wrap (b4.toNat : Int) * 16777216) = ((b4.toNat * 16777216 : Nat) : Int) := sh_val b4 16777216 (by decide)
  have e5 : IntKind.u64.wrap (IntKind.u64.wrap (b5.toNat : Int) * 65536) = ((b5.toNat * 65536 : Nat) : Int) := sh_val b5 65536 (by decide)
  have e6 : IntKind.u64.wrap (IntKind.u64.wrap (b6.toNat : Int) * 256) = ((b6.toNat * 256 : Nat) : Int) := sh_val b6 256 (by decide)
  have e7 := sh_last b7
  rw [e0, e1, e2, e3, e4, e5, e6, e7]
  rw [or_add' _ _ 56 (by omega) (by omega) (by omega)]
  rw [or_add' _ _ 48 (by omega) (by omega) (by omega)]
  rw [or_add' _ _ 40 (by omega) (by omega) (by omega)]
  rw [or_add' _ _ 32 (by omega) (by omega) (by omega)]
  rw [or_add' _ _ 24 (by omega) (by omega) (by omega)]
  rw [or_add' _ _ 16 (by omega) (by omega) (by omega)]
  rw [or_add' _ _ 8 (by omega) (by omega) (by omega)]
  simp [wordN, pad8, numN]; omega
end Go.Proofs.YthmecidpjlaonaaGreat
namespace Go.Proofs.YthmecidpjlaonaaGreat
open Go.RowKit
set_option maxRecDepth 100000 in
set_option maxHeartbeats 1000000 in
theorem word_long (b o n c : Nat) (b0 b1 b2 b3 b4 b5 b6 b7 : UInt8) (w : World) (hn : 8 ≤ n) (hm : n ≤ 9223372036854775807)
    (c0 : w.cell? ⟨b, o, none⟩ = some (B b0)) (c1 : w.cell? ⟨b, o + 1, none⟩ = some (B b1)) (c2 : w.cell? ⟨b, o + 2, none⟩ = some (B b2)) (c3 : w.cell? ⟨b, o + 3, none⟩ = some (B b3)) (c4 : w.cell? ⟨b, o + 4, none⟩ = some (B b4)) (c5 : w.cell? ⟨b, o + 5, none⟩ = some (B b5)) (c6 : w.cell? ⟨b, o + 6, none⟩ = some (B b6)) (c7 : w.cell? ⟨b, o + 7, none⟩ = some (B b7)) :
    Calls Tryz.prog 165 #[.slice (some ⟨b, o, none⟩) n c] w (NumPost w (wordN [b0, b1, b2, b3, b4, b5, b6, b7])) := by
  have h8 : (8 : Int) ≤ (n : Int) := by omega
  have d8 : decide ((8 : Int) ≤ (n : Int)) = true := by simp; omega
  go_enter Tryz.func165, Tryz.ntmps165
  go_wp2
  go_quiet (fail)
  go_wp2
  go_ret
  exact ⟨ret_u (nest8 b0 b1 b2 b3 b4 b5 b6 b7), below_drewN (Below.refl _ _) _⟩
/-- Eight bytes at the head of a list. -/
theorem eight {l : List UInt8} (h : 8 ≤ l.length) : ∃ b0 b1 b2 b3 b4 b5 b6 b7 r, l = b0 :: b1 :: b2 :: b3 :: b4 :: b5 :: b6 :: b7 :: r := by
  match l, h with
  | b0 :: b1 :: b2 :: b3 :: b4 :: b5 :: b6 :: b7 :: r, _ => exact ⟨b0, b1, b2, b3, b4, b5, b6, b7, r, rfl⟩
theorem wordN_eight (b0 b1 b2 b3 b4 b5 b6 b7 : UInt8) (r : List UInt8) : wordN (b0 :: b1 :: b2 :: b3 :: b4 :: b5 :: b6 :: b7 :: r) = wordN [b0, b1, b2, b3, b4, b5, b6, b7] := by
  simp [wordN, pad8]
end Go.Proofs.YthmecidpjlaonaaGreat
namespace Go.Proofs.YthmecidpjlaonaaGreat
open Go.RowKit

theorem size_name : (Tryz.prog.info? 29).map (·.size) = some 8 := by kernel_rfl
/-- The name of eight bytes. -/
theorem name_of {l : List UInt8} (h : l.length = 8) : ∃ n : Nm, n.bytes = l := by
  match l, h with
  | [b0, b1, b2, b3, b4, b5, b6, b7], _ => exact ⟨⟨b0, b1, b2, b3, b4, b5, b6, b7⟩, rfl⟩
theorem pad8_len (l : List UInt8) : (pad8 l).length = 8 := by simp [pad8]

set_option maxRecDepth 100000 in
set_option maxHeartbeats 1000000 in
theorem word_short (A : Option Addr) (c : Nat) (l : List UInt8) (w : World) (hr : Rd w w.heap.size A (l.map B)) (hl : l.length < 8) :
    Calls Tryz.prog 165 #[.slice A l.length c] w (NumPost w (wordN l)) := by
  obtain ⟨xs, hxs⟩ : ∃ xs, xs = l.map B := ⟨_, rfl⟩
  have h1 : ∀ u ∈ xs, u.oneCell' = true := by rw [hxs]; exact fun u hu => bytes_one hu
  rw [← hxs] at hr
  have Hx := Lib.hid hxs; clear hxs
  obtain ⟨n, hn⟩ := name_of (pad8_len l)
  have Hn := Lib.hid hn; clear hn
  have Hl := Lib.hid hl
  have d8 : decide ((8 : Int) ≤ (l.length : Int)) = false := by simp; omega
  have hi : (l.length : Int) < 8 := by omega
  have hmin : min 8 l.length = l.length := by omega
  have Hmin := Lib.hid hmin; clear hmin
  clear hl
  go_enter Tryz.func165, Tryz.ntmps165
  go_wp2_with (refine wpList_copy_splice rfl (.tmp 53) (.tmp 54) _ _ rfl 5 Tryz.underlying32 (by kernel_rfl) _ _ _ _ _ _ rfl rfl w.heap.size 0 [.int .u8 0, .int .u8 0, .int .u8 0, .int .u8 0, .int .u8 0, .int .u8 0, .int .u8 0, .int .u8 0] 29 ?h1 xs ?h2 ?h3 ?h4 h1 w.heap.size w ?h5 (Nat.le_refl _) ?_)
  case h1 => exact heap_alloc_new w _
  case h2 =>
    have := Hl.out
    have h2 : xs.length = l.length := by rw [Hx.out]; simp
    rw [h2]; exact (Nat.min_eq_left (by omega)).symm
  case h3 =>
    intro hp
    obtain ⟨b, o, rfl, hb, hc⟩ := hr.cells (by rintro rfl; simp at hp)
    refine ⟨_, rfl, fun j v hv => ?_⟩
    rw [Addr.add_mid, World.cell?_alloc_lt _ _ _ hb]
    exact hc j v hv
  case h4 =>
    have := Hl.out
    have h2 : xs.length = l.length := by rw [Hx.out]; simp
    simp [h2]; omega
  case h5 => exact (Below.refl _ _).alloc (Nat.le_refl _) _
  intro w1 hg hb
  have hB1 : Blk w1 w.heap.size 29 #[B n.b0, B n.b1, B n.b2, B n.b3, B n.b4, B n.b5, B n.b6, B n.b7] := by
    have e : (splice [Value.int .u8 0, .int .u8 0, .int .u8 0, .int .u8 0, .int .u8 0, .int .u8 0, .int .u8 0, .int .u8 0] 0 xs) = [B n.b0, B n.b1, B n.b2, B n.b3, B n.b4, B n.b5, B n.b6, B n.b7] := by
      have h3 : n.bytes.map B = [B n.b0, B n.b1, B n.b2, B n.b3, B n.b4, B n.b5, B n.b6, B n.b7] := rfl
      rw [← h3, Hn.out, Hx.out]
      have := Hl.out
      match l, this with
      | [], _ => rfl
      | [a], _ => rfl
      | [a, b], _ => rfl
      | [a, b, c], _ => rfl
      | [a, b, c, d], _ => rfl
      | [a, b, c, d, e], _ => rfl
      | [a, b, c, d, e, f], _ => rfl
      | [a, b, c, d, e, f, g], _ => rfl
    have h4 := hg.out
    rw [e] at h4
    exact h4
  clear hg
  go_wp2_with (refine wpList_load_at rfl 29 (.tmp 3) rfl w.heap.size 0 rfl #[B n.b0, B n.b1, B n.b2, B n.b3, B n.b4, B n.b5, B n.b6, B n.b7] _ (fun j u hj => by rw [Nat.zero_add, hB1.cell]; exact hj) Tryz.underlying29 rfl size_name ?_)
  refine (number_any n _).mono ?_
  rintro e w2 ⟨rfl, hb2⟩
  go_wp2
  go_ret
  refine ⟨?_, hb.trans (hb2.mono hb.size)⟩
  have e : wordN l = numN n.bytes := by rw [Hn.out]; rfl
  rw [e]; rfl

theorem word_any (A : Option Addr) (c : Nat) (l : List UInt8) (w : World) (hr : Rd w w.heap.size A (l.map B)) (hm : l.length ≤ 9223372036854775807) :
    Calls Tryz.prog 165 #[.slice A l.length c] w (NumPost w (wordN l)) := by
  by_cases h : l.length < 8
  · exact word_short A c l w hr h
  · obtain ⟨b0, b1, b2, b3, b4, b5, b6, b7, r, rfl⟩ := eight (show 8 ≤ l.length by omega)
    obtain ⟨b, o, rfl, _, hc⟩ := hr.cells (by simp)
    rw [wordN_eight]
    exact word_long b o _ c b0 b1 b2 b3 b4 b5 b6 b7 w (by simp) hm (hc 0 _ rfl) (hc 1 _ rfl) (hc 2 _ rfl) (hc 3 _ rfl) (hc 4 _ rfl) (hc 5 _ rfl) (hc 6 _ rfl) (hc 7 _ rfl)

end Go.Proofs.YthmecidpjlaonaaGreat
