/-
  codec.extended and codec.AppendUint (of width 0 and 2) return a new row with the bytes that the document names, and change nothing. Condition: the length is within the form's reach.
-/
import Derived.Test.YthmecidpjlaonaaGreatSMem
import Derived.Laws.CopyOwn
namespace Go.Proofs.YthmecidpjlaonaaGreat
open Go.RowKit

theorem info_byte : (Tryz.prog.info? 5).map (fun i => (i.zero, i.size, i.bytes)) = some (some (.int .u8 0), 1, 1) := by kernel_rfl
/-- The call returns a new row of its own. -/
def RowPost (w : World) (e size n : Nat) (xs : List Value) (en : Ending) (w' : World) : Prop :=
  ∃ A c, en = .returned (.slice A n c) ∧ w'.ownsRow w.heap.size e size (.slice A n c) n xs ∧ Below w.heap.size w w'

set_option maxRecDepth 100000 in
set_option maxHeartbeats 1000000 in
theorem ext_any (A : Option Addr) (len c n : Nat) (xs : List Value) (w : World) (hl : xs.length = len) (hr : Rd w w.heap.size A xs) (h1 : ∀ u ∈ xs, u.oneCell' = true)
    (hlen : len ≤ 140737488351232) (hn : n ≤ 8) :
    Calls Tryz.prog 116 #[.slice A len c, .int .i64 n] w (RowPost w 5 1 len xs) := by
  obtain ⟨i0, hi, hz0, hz1, hz2⟩ := info_parts info_byte
  have hmk : ∀ W : World, (Instr.makeSlice 32 (.int .i64 (len : Int)) (.int .i64 ((len : Int) + (n : Int)))).run Tryz.prog W = .ok (.slice (some ⟨W.heap.size, 0, none⟩) len (len + n)) (W.alloc (.cells (madeCells #[.int .u8 0] (len + n)) 5)) := fun W => by
    have := run_make (P := Tryz.prog) W 32 5 i0 (.int .u8 0) Tryz.underlying32 hi hz0 .i64 .i64 len (len + n) (by omega) (by omega) (by rw [hz2]; omega) (by omega)
    rw [this, hz1]
    simp only [Int.toNat_natCast, Nat.mul_one, Value.cells, show ((len : Int) + (n : Int)).toNat = len + n from by omega]
  have Hl := Lib.hid hl; clear hl
  go_enter Tryz.func116, Tryz.ntmps116
  go_wp2_with (refine wpList_copy_splice rfl (.tmp 13) (.tmp 14) _ _ rfl 5 Tryz.underlying32 (by kernel_rfl) _ _ _ _ _ _ rfl rfl w.heap.size 0 (madeCells #[.int .u8 0] (len + n)).toList 5 ?h1 xs ?h2 ?h3 ?h4 h1 w.heap.size w ?h5 (Nat.le_refl _) ?_)
  case h1 => exact heap_alloc_new w _
  case h2 => have := Hl.out; simp; omega
  case h3 =>
    intro hp
    obtain ⟨b, o, rfl, hb, hc⟩ := hr.cells (by rintro rfl; simp at hp)
    refine ⟨_, rfl, fun j v hv => ?_⟩
    rw [Addr.add_mid, World.cell?_alloc_lt _ _ _ hb]
    exact hc j v hv
  case h4 => have := Hl.out; simp [size_madeCells]; omega
  case h5 => exact (Below.refl _ _).alloc (Nat.le_refl _) _
  intro w1 hg hb
  go_wp2
  go_ret
  refine ⟨_, _, rfl, ⟨by have := Hl.out; simp; omega, .inr ⟨_, _, _, rfl, Nat.le_refl _, hg.out, by omega, by unfold maxLen; omega, ?_, ?_⟩⟩, hb⟩
  · have := Hl.out
    simp [splice, size_madeCells]; omega
  · have := Hl.out
    subst this
    simp [splice]

set_option maxRecDepth 100000 in
set_option maxHeartbeats 1000000 in
/-- AppendUint of width 0: a copy. -/
theorem app0_any (A : Option Addr) (len c : Nat) (x : Int) (xs : List Value) (w : World) (hl : xs.length = len) (hr : Rd w w.heap.size A xs) (h1 : ∀ u ∈ xs, u.oneCell' = true)
    (hlen : len ≤ 140737488351232) :
    Calls Tryz.prog 71 #[.slice A len c, .int .u64 x, .int .i64 0] w (RowPost w 5 1 len xs) := by
  have Hl := Lib.hid hl; clear hl
  have HR := Lib.hid hr; clear hr
  have H1 := Lib.hid h1; clear h1
  go_enter Tryz.func71, Tryz.ntmps71
  go_wp2_with fail
  refine (ext_any A len c 0 xs _ Hl.out HR.out H1.out hlen (by omega)).mono ?_
  rintro e w1 ⟨A1, c1, rfl, hown, hb⟩
  go_wp2_with fail
  refine wp_loop_rounds 1 ?_
  rw [rounds_succ]
  go_wp2
  go_ret
  exact ⟨A1, c1, rfl, hown, hb⟩

def byteAt (v : Nat) (k : Nat) : UInt8 := UInt8.ofNat (v / 256 ^ k)
theorem byteAt0 (v : Nat) : B (byteAt v 0) = .int .u8 ((v : Int) % 256) := by
  simp [byteAt]
theorem byteAt1 (v : Nat) : B (byteAt v 1) = .int .u8 ((v : Int) / 256 % 256) := by
  simp [byteAt]
theorem one_cell {u x : Value} (h : u ∈ [x]) (hx : x.oneCell' = true) : u.oneCell' = true := by
  simp at h; subst h; exact hx

set_option maxRecDepth 100000 in
set_option maxHeartbeats 1000000 in
/-- AppendUint of width 2. -/
theorem app2_any (A : Option Addr) (len c v : Nat) (xs : List Value) (w : World) (hl : xs.length = len) (hr : Rd w w.heap.size A xs) (h1 : ∀ u ∈ xs, u.oneCell' = true)
    (hlen : len ≤ 1000000) :
    Calls Tryz.prog 71 #[.slice A len c, .int .u64 v, .int .i64 2] w (RowPost w 5 1 (len + 2) (xs ++ [B (byteAt v 1), B (byteAt v 0)])) := by
  have Hl := Lib.hid hl; clear hl
  have HR := Lib.hid hr; clear hr
  have H1 := Lib.hid h1; clear h1
  go_enter Tryz.func71, Tryz.ntmps71
  go_wp2_with fail
  refine (ext_any A len c 2 xs _ Hl.out HR.out H1.out (by omega) (by omega)).mono ?_
  rintro e w1 ⟨A1, c1, rfl, hown, hb⟩
  go_wp2_with fail
  refine wp_loop_rounds 3 ?_
  rw [rounds_succ]
  go_wp2_with (at_builtin; refine wpList_app rfl (.tmp 21) (.tmp 27) _ rfl w.heap.size 5 (.int .u8 0) 1 1 Tryz.underlying32 info_byte rfl (by decide) _ len xs rfl (hown.alloc _) (w1.heap.size + 1) _ 1 1 [B (byteAt v 1)] rfl rfl ?r1 ?r2 ?r3 ?r4 ?r5 ?_)
  case r1 => rw [byteAt1]; exact Rd.one _ _ _
  case r2 => exact fun u hu => one_cell hu rfl
  case r3 => omega
  case r4 => unfold maxLen; omega
  case r5 => have := hb.size; simp; omega
  intro v2 w2 hown2 hg2 hat2
  have hb2 : Below w.heap.size w w2 := below_own (hb.alloc hb.size _) (hown.alloc _) hg2
  clear hat2 hg2
  go_wp2
  rw [rounds_succ]
  go_wp2_with (at_builtin; refine wpList_app rfl (.tmp 21) (.tmp 27) _ rfl w.heap.size 5 (.int .u8 0) 1 1 Tryz.underlying32 info_byte rfl (by decide) _ (len + 1) (xs ++ [B (byteAt v 1)]) rfl (hown2.alloc _) (w2.heap.size + 1) _ 1 1 [B (byteAt v 0)] rfl rfl ?q1 ?q2 ?q3 ?q4 ?q5 ?_)
  case q1 => rw [byteAt0]; exact Rd.one _ _ _
  case q2 => exact fun u hu => one_cell hu rfl
  case q3 => omega
  case q4 => unfold maxLen; omega
  case q5 => have := hb2.size; simp; omega
  intro v3 w3 hown3 hg3 hat3
  have hb3 : Below w.heap.size w w3 := below_own (hb2.alloc hb2.size _) (hown2.alloc _) hg3
  clear hat3 hg3
  go_wp2
  rw [rounds_succ]
  go_wp2
  go_ret
  obtain ⟨A3, c3, rfl⟩ := own_form hown3
  exact ⟨A3, c3, rfl, by simpa using hown3, hb3⟩
theorem app2_int (A : Option Addr) (len c : Nat) (x : Int) (xs : List Value) (w : World) (hl : xs.length = len) (hr : Rd w w.heap.size A xs) (h1 : ∀ u ∈ xs, u.oneCell' = true)
    (hlen : len ≤ 1000000) (hx : 0 ≤ x) :
    Calls Tryz.prog 71 #[.slice A len c, .int .u64 x, .int .i64 2] w (RowPost w 5 1 (len + 2) (xs ++ [B (byteAt x.toNat 1), B (byteAt x.toNat 0)])) := by
  obtain ⟨n, rfl⟩ := Int.eq_ofNat_of_zero_le hx
  exact app2_any A len c n xs w hl hr h1 hlen
theorem bytes_one {u : Value} {l : List UInt8} (h : u ∈ l.map B) : u.oneCell' = true := by
  obtain ⟨b, _, rfl⟩ := List.mem_map.1 h
  rfl
end Go.Proofs.YthmecidpjlaonaaGreat
