/-
  The reference's Encode returns the 23 bytes of a valid vote and true, and nil and false for a vote that is not valid, and changes nothing. Condition: the vote's Support is an int64.
-/
import Derived.Test.YthmecidpjlaonaaGreatEnc
import Derived.Test.YthmecidpjlaonaaGreatVoteR
namespace Go.Proofs.YthmecidpjlaonaaGreat
open Go.RowKit
attribute [local go_sem ↓] Go.wp_at_zero Go.wp_at_succ

theorem rvalid_yes (v : Vt) (w : World) (hv : v.ok) (hy : ValidP v) : Calls Tryz.prog 51 #[v.val] w fun e w' => e = .returned (.bool true) ∧ Below w.heap.size w w' :=
  (rvalid_any v w hv).mono fun _ _ h => ⟨by rw [h.1, decide_eq_true hy], h.2⟩
theorem rvalid_no (v : Vt) (w : World) (hv : v.ok) (hy : ¬ ValidP v) : Calls Tryz.prog 51 #[v.val] w fun e w' => e = .returned (.bool false) ∧ Below w.heap.size w w' :=
  (rvalid_any v w hv).mono fun _ _ h => ⟨by rw [h.1, decide_eq_false hy], h.2⟩

set_option maxRecDepth 100000 in
set_option maxHeartbeats 1000000 in
theorem renc_no (v : Vt) (w : World) (hv : v.ok) (hn : ¬ ValidP v) : Calls Tryz.prog 85 #[v.val] w (RowFalse w) := by
  have Hn := Lib.hid hn; clear hn
  go_enter Tryz.func85, Tryz.ntmps85
  go_wp2_with (refine wpList_load_row rfl 31 _ rfl w.heap.size rfl 31 v.cells (0, 0) _ (heap_alloc_new w _) Tryz.underlying31 rfl size_vote ?_)
  refine (rvalid_no v _ hv Hn.out).mono ?_
  rintro e w1 ⟨rfl, hb⟩
  go_wp2
  go_ret2
  exact ⟨rfl, ((Below.refl _ _).alloc (Nat.le_refl _) _).trans (hb.mono (by simp))⟩

def enc7 (v : Vt) : List UInt8 := [byteI v.kind, byteI v.slot, byteI v.round, byteI v.choice, byteI v.signer, byteAt v.support.toNat 1, byteAt v.support.toNat 0]
theorem byteAt1_int {n : Int} (h : 0 ≤ n) : B (byteAt n.toNat 1) = .int .u8 (n / 256 % 256) := by
  rw [byteAt1]; congr 1; omega
theorem byteAt0_int {n : Int} (h : 0 ≤ n) : B (byteAt n.toNat 0) = .int .u8 (n % 256) := by
  rw [byteAt0]; congr 1; omega

set_option maxRecDepth 100000 in
set_option maxHeartbeats 1000000 in
theorem renc_yes (v : Vt) (w : World) (hv : v.ok) (hy : ValidP v) : Calls Tryz.prog 85 #[v.val] w (RowTrue w 5 1 23 ((encB v).map B)) := by
  obtain ⟨⟨b1, b1'⟩, ⟨b2, b2'⟩, ⟨b3, b3'⟩, ⟨b4, b4'⟩, ⟨b5, b5'⟩, ⟨b6, b6'⟩⟩ := hy.bounds
  have Hy := Lib.hid hy; clear hy
  go_enter Tryz.func85, Tryz.ntmps85
  go_wp2_with (refine wpList_load_row rfl 31 _ rfl w.heap.size rfl 31 v.cells (0, 0) _ (heap_alloc_new w _) Tryz.underlying31 rfl size_vote ?_)
  refine (rvalid_yes v _ hv Hy.out).mono ?_
  rintro e w1 ⟨rfl, hb⟩
  have hB1 : Blk w1 w.heap.size 31 v.cells := (Blk.new w _ _).below hb (by simp)
  have hb1 : Below w.heap.size w w1 := ((Below.refl _ _).alloc (Nat.le_refl _) _).trans (hb.mono (by simp))
  clear hb
  have hlt : w.heap.size < w1.heap.size := hB1.lt
  have c0 : w1.cell? ⟨w.heap.size, 0, none⟩ = some (I v.kind) := hB1.cell 0
  have c1 : w1.cell? ⟨w.heap.size, 1, none⟩ = some (I v.slot) := hB1.cell 1
  have c2 : w1.cell? ⟨w.heap.size, 2, none⟩ = some (I v.round) := hB1.cell 2
  have c3 : w1.cell? ⟨w.heap.size, 3, none⟩ = some (I v.choice) := hB1.cell 3
  have c4 : w1.cell? ⟨w.heap.size, 4, none⟩ = some (I v.signer) := hB1.cell 4
  have c5 : w1.cell? ⟨w.heap.size, 5, none⟩ = some (I v.support) := hB1.cell 5
  go_wp2
  have hown2 : (w1.alloc (Obj.cells #[Value.int IntKind.u8 v.kind, Value.int IntKind.u8 v.slot, Value.int IntKind.u8 v.round, Value.int IntKind.u8 v.choice, Value.int IntKind.u8 v.signer, Value.int IntKind.u8 (v.support / 256), Value.int IntKind.u8 (v.support % 256)] 5)).ownsRow w.heap.size 5 1 (.slice (some ⟨w1.heap.size, 0, none⟩) 7 7) 7 ((enc7 v).map B) := by
    have e : (enc7 v).map B = [Value.int IntKind.u8 v.kind, Value.int IntKind.u8 v.slot, Value.int IntKind.u8 v.round, Value.int IntKind.u8 v.choice, Value.int IntKind.u8 v.signer, Value.int IntKind.u8 (v.support / 256), Value.int IntKind.u8 (v.support % 256)] := by
      simp only [enc7, List.map_cons, List.map_nil, byteI_eq b1 (show v.kind ≤ 255 by omega), byteI_eq b2 (show v.slot ≤ 255 by omega), byteI_eq b3 (show v.round ≤ 255 by omega), byteI_eq b4 (show v.choice ≤ 255 by omega), byteI_eq b5 (show v.signer ≤ 255 by omega), byteAt1_int b6, byteAt0_int b6, show v.support / 256 % 256 = v.support / 256 from by omega]
    rw [e]
    exact World.ownsRow_lit w1 _ 7 hb1.size (by unfold maxLen; omega) rfl
  have hB2 := hB1.alloc (Obj.cells #[Value.int IntKind.u8 v.kind, Value.int IntKind.u8 v.slot, Value.int IntKind.u8 v.round, Value.int IntKind.u8 v.choice, Value.int IntKind.u8 v.signer, Value.int IntKind.u8 (v.support / 256), Value.int IntKind.u8 (v.support % 256)] 5)
  have hb2 := hb1.alloc hb1.size (Obj.cells #[Value.int IntKind.u8 v.kind, Value.int IntKind.u8 v.slot, Value.int IntKind.u8 v.round, Value.int IntKind.u8 v.choice, Value.int IntKind.u8 v.signer, Value.int IntKind.u8 (v.support / 256), Value.int IntKind.u8 (v.support % 256)] 5)
  generalize w1.alloc (Obj.cells #[Value.int IntKind.u8 v.kind, Value.int IntKind.u8 v.slot, Value.int IntKind.u8 v.round, Value.int IntKind.u8 v.choice, Value.int IntKind.u8 v.signer, Value.int IntKind.u8 (v.support / 256), Value.int IntKind.u8 (v.support % 256)] 5) = w2 at *
  clear c0 c1 c2 c3 c4 c5 hB1 hb1
  have hlt2 := hB2.lt
  go_region_held3 (fun _ => True) (trivial)
    ((first
      | ((refine step_app (by rfl) (.tmp 31) (.tmp 33) _ (by rfl) w.heap.size 5 (.int .u8 0) 1 1 Tryz.underlying32 info_byte rfl (by decide) _ 7 ((enc7 v).map B) (by rfl) (own_drew hown2) (w2.heap.size) _ 8 8 (v.parent.bytes.map B) (by rfl) (by rfl) (Rd.of_blk hB2 6 8) (fun u hu => bytes_one hu) (by omega) (by unfold maxLen; omega) (hb2.size) ?_; intro v3 w3 hown3 hg3 hat3))
      | ((refine step_app (by rfl) (.tmp 34) (.tmp 36) _ (by rfl) w.heap.size 5 (.int .u8 0) 1 1 Tryz.underlying32 info_byte rfl (by decide) _ (7 + 8) ((enc7 v).map B ++ v.parent.bytes.map B) (by rfl) hown3 (w3.heap.size) _ 8 8 (v.value.bytes.map B) (by rfl) (by rfl) (Rd.of_blk (hB2.drew.kept hg3 (own_ne (own_drew hown2) hB2.drew (by decide))) 14 8) (fun u hu => bytes_one hu) (by omega) (by unfold maxLen; omega) ((below_own hb2.drew (own_drew hown2) hg3).size) ?_; intro v4 w4 hown4 hg4 hat4))))
  have hb4 : Below w.heap.size w w4 := below_own (below_own hb2.drew (own_drew hown2) hg3) hown3 hg4
  obtain ⟨A5, c5, rfl⟩ := own_form hown4
  go_wp2
  go_ret2
  refine ⟨A5, c5, rfl, ?_, hb4⟩
  have e : (encB v).map B = ((enc7 v).map B ++ v.parent.bytes.map B) ++ v.value.bytes.map B := by simp [encB, enc7]
  rw [e]
  exact hown4
end Go.Proofs.YthmecidpjlaonaaGreat
