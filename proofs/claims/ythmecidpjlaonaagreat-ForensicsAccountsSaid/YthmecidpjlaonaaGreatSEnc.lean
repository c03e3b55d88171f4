/-
  vote.Encode returns the 23 bytes of a valid vote and true, and nil and false for a vote that is not valid, and changes nothing. Condition: the vote's Support is an int64.
-/
import Derived.Test.YthmecidpjlaonaaGreatSVote
import Derived.Test.YthmecidpjlaonaaGreatSCodec
import Derived.Test.YthmecidpjlaonaaGreatHMem2
namespace Go.Proofs.YthmecidpjlaonaaGreat
open Go.RowKit

def byteI (n : Int) : UInt8 := UInt8.ofNat n.toNat
def enc5 (v : Vt) : List UInt8 := [byteI v.kind, byteI v.slot, byteI v.round, byteI v.choice, byteI v.signer]
def encB (v : Vt) : List UInt8 := [byteI v.kind, byteI v.slot, byteI v.round, byteI v.choice, byteI v.signer, byteAt v.support.toNat 1, byteAt v.support.toNat 0] ++ v.parent.bytes ++ v.value.bytes
theorem byteI_eq {n : Int} (h0 : 0 ≤ n) (h1 : n ≤ 255) : B (byteI n) = .int .u8 n := by
  show Value.int .u8 _ = _
  rw [Value.int.injEq]
  refine ⟨rfl, ?_⟩
  simp [byteI]; omega

/-- What a valid vote's numbers are. -/
theorem ValidP.bounds {v : Vt} (h : ValidP v) : (0 ≤ v.kind ∧ v.kind ≤ 7) ∧ (0 ≤ v.slot ∧ v.slot ≤ 9) ∧ (0 ≤ v.round ∧ v.round ≤ 12) ∧ (0 ≤ v.choice ∧ v.choice ≤ 2) ∧ (0 ≤ v.signer ∧ v.signer ≤ 9) ∧ (0 ≤ v.support ∧ v.support ≤ 1023) := by
  obtain ⟨h1, h2, _, h4, h5, h6, h7, h8⟩ := h
  omega

/-- The call returns a new row of its own, and true. -/
def RowTrue (w : World) (e size n : Nat) (xs : List Value) (en : Ending) (w' : World) : Prop :=
  ∃ A c, en = .returned (.tuple #[.slice A n c, .bool true]) ∧ w'.ownsRow w.heap.size e size (.slice A n c) n xs ∧ Below w.heap.size w w'
/-- The call returns nil and false. -/
def RowFalse (w : World) (en : Ending) (w' : World) : Prop := en = .returned (.tuple #[.slice none 0 0, .bool false]) ∧ Below w.heap.size w w'

theorem valid_yes (v : Vt) (w : World) (hv : v.ok) (hy : ValidP v) : Calls Tryz.prog 56 #[v.val] w fun e w' => e = .returned (.bool true) ∧ Below w.heap.size w w' :=
  (valid_any v w hv).mono fun _ _ h => ⟨by rw [h.1, decide_eq_true hy], h.2⟩
theorem valid_no (v : Vt) (w : World) (hv : v.ok) (hy : ¬ ValidP v) : Calls Tryz.prog 56 #[v.val] w fun e w' => e = .returned (.bool false) ∧ Below w.heap.size w w' :=
  (valid_any v w hv).mono fun _ _ h => ⟨by rw [h.1, decide_eq_false hy], h.2⟩

theorem size_vote : (Tryz.prog.info? 31).map (·.size) = some 22 := by kernel_rfl
set_option maxRecDepth 100000 in
set_option maxHeartbeats 1000000 in
theorem venc_no (v : Vt) (w : World) (hv : v.ok) (hn : ¬ ValidP v) : Calls Tryz.prog 95 #[v.val] w (RowFalse w) := by
  have Hn := Lib.hid hn; clear hn
  go_enter Tryz.func95, Tryz.ntmps95
  go_wp2_with (refine wpList_load_row rfl 31 _ rfl w.heap.size rfl 31 v.cells (0, 0) _ (heap_alloc_new w _) Tryz.underlying31 rfl size_vote ?_)
  refine (valid_no v _ hv Hn.out).mono ?_
  rintro e w1 ⟨rfl, hb⟩
  go_wp2
  go_ret2
  exact ⟨rfl, ((Below.refl _ _).alloc (Nat.le_refl _) _).trans (hb.mono (by simp))⟩

set_option maxRecDepth 100000 in
set_option maxHeartbeats 1000000 in
theorem venc_yes (v : Vt) (w : World) (hv : v.ok) (hy : ValidP v) : Calls Tryz.prog 95 #[v.val] w (RowTrue w 5 1 23 ((encB v).map B)) := by
  obtain ⟨⟨b1, b1'⟩, ⟨b2, b2'⟩, ⟨b3, b3'⟩, ⟨b4, b4'⟩, ⟨b5, b5'⟩, ⟨b6, b6'⟩⟩ := hy.bounds
  have Hy := Lib.hid hy; clear hy
  have hmk : ∀ W : World, (Instr.makeSlice 32 (.int .i64 0) (.int .i64 23)).run Tryz.prog W = .ok (.slice (some ⟨W.heap.size, 0, none⟩) 0 23) (W.alloc (.cells (Array.replicate 23 (.int .u8 0)) 5)) := fun W => by kernel_rfl
  go_enter Tryz.func95, Tryz.ntmps95
  go_wp2_with (refine wpList_load_row rfl 31 _ rfl w.heap.size rfl 31 v.cells (0, 0) _ (heap_alloc_new w _) Tryz.underlying31 rfl size_vote ?_)
  refine (valid_yes v _ hv Hy.out).mono ?_
  rintro e w1 ⟨rfl, hb⟩
  have hB1 : Blk w1 w.heap.size 31 v.cells := (Blk.new w _ _).below hb (by simp)
  have hb1 : Below w.heap.size w w1 := ((Below.refl _ _).alloc (Nat.le_refl _) _).trans (hb.mono (by simp))
  clear hb
  have hlt : w.heap.size < w1.heap.size := hB1.lt
  have c0 : w1.cell? ⟨w.heap.size, 0, none⟩ = some (I v.kind) := hB1.cell 0
  have c1 : w1.cell? ⟨w.heap.size, 1, none⟩ = some (I v.slot) := hB1.cell 1
  have c2 : w1.cell? ⟨w.heap.size, 2, none⟩ = some (I v.round) := hB1.cell 2
  have c3 : w1.cell? ⟨w.heap.size, 3, none⟩ = some (I v.choice) := hB1.cell 3
  have c4 : w1.cell? ⟨w.heap.size, 4, none⟩ = some (I v.signer) := hB1.cell 4
  have c5 : w1.cell? ⟨w.heap.size, 5, none⟩ = some (I v.support) := hB1.cell 5
  go_wp2_with (at_builtin; refine wpList_app rfl (.tmp 9) (.tmp 25) _ rfl w.heap.size 5 (.int .u8 0) 1 1 Tryz.underlying32 info_byte rfl (by decide) (.slice (some ⟨w1.heap.size, 0, none⟩) 0 23) 0 [] rfl ?r0 (w1.heap.size + 2) _ 5 5 ((enc5 v).map B) rfl rfl ?r1 ?r2 ?r3 ?r4 ?r5 ?_)
  case r0 => exact World.ownsRow.alloc (World.ownsRow_made _ _ 23 hb1.size (by unfold maxLen; omega) (by simp)) _
  case r1 =>
    have h := Rd.of_blk (Blk.new (w1.alloc (Obj.cells (Array.replicate 23 (Value.int IntKind.u8 0)) 5)) 5 #[B (byteI v.kind), B (byteI v.slot), B (byteI v.round), B (byteI v.choice), B (byteI v.signer)]) 0 5
    rw [byteI_eq b1 (by omega), byteI_eq b2 (by omega), byteI_eq b3 (by omega), byteI_eq b4 (by omega), byteI_eq b5 (by omega)] at h
    simp only [enc5, List.map_cons, List.map_nil, byteI_eq b1 (show v.kind ≤ 255 by omega), byteI_eq b2 (show v.slot ≤ 255 by omega), byteI_eq b3 (show v.round ≤ 255 by omega), byteI_eq b4 (show v.choice ≤ 255 by omega), byteI_eq b5 (show v.signer ≤ 255 by omega)]
    simpa using h
  case r2 => exact fun u hu => bytes_one hu
  case r3 => omega
  case r4 => unfold maxLen; omega
  case r5 => have := hb1.size; simp; omega
  intro v2 w2 hown2 hg2 hat2
  have hB2 : Blk w2 w.heap.size 31 v.cells := ((hB1.alloc _).alloc _).kept hg2 (by simp [Value.ownBlock]; omega)
  have hb2 : Below w.heap.size w w2 := (((hb1.alloc hb1.size _).alloc (by have := hb1.size; simp; omega) _)).grown hg2 (by have := hb1.size; simp; omega) (by simp [Value.ownBlock]; have := hb1.size; omega)
  clear hg2 hat2 c0 c1 c2 c3 c4 c5 hlt hB1 hb1 hmk
  obtain ⟨A2, c2, rfl⟩ := own_form hown2
  have c5 : w2.cell? ⟨w.heap.size, 5, none⟩ = some (I v.support) := hB2.cell 5
  go_wp2_with fail
  refine (app2_int A2 5 c2 v.support _ w2 (by simp [enc5]) (Rd.of_own hown2) (fun u hu => bytes_one hu) (by omega) b6).mono ?_
  rintro e w3 ⟨A3, c3, rfl, hown3, hb3'⟩
  have hB3 : Blk w3 w.heap.size 31 v.cells := hB2.below hb3' hB2.lt
  have hb3 : Below w.heap.size w w3 := hb2.trans (hb3'.mono hb2.size)
  replace hown3 := own_base hown3 hb2.size
  clear hb3' hB2 hb2 hown2 c5
  have hlt3 := hB3.lt
  go_wp2_with (at_builtin; refine wpList_app rfl (.tmp 32) (.tmp 34) _ rfl w.heap.size 5 (.int .u8 0) 1 1 Tryz.underlying32 info_byte rfl (by decide) _ 7 ((enc5 v).map B ++ [B (byteAt v.support.toNat 1), B (byteAt v.support.toNat 0)]) rfl ?q0 (w3.heap.size) _ 8 8 (v.parent.bytes.map B) rfl rfl ?q1 ?q2 ?q3 ?q4 ?q5 ?_)
  case q0 => exact hown3
  case q1 => exact Rd.of_blk hB3 6 8
  case q2 => exact fun u hu => bytes_one hu
  case q3 => omega
  case q4 => unfold maxLen; omega
  case q5 => exact hb3.size
  intro v4 w4 hown4 hg4 hat4
  have hB4 : Blk w4 w.heap.size 31 v.cells := hB3.kept hg4 (own_ne hown3 hB3 (by decide))
  have hb4 : Below w.heap.size w w4 := below_own hb3 hown3 hg4
  clear hg4 hat4 hB3 hb3 hown3 hlt3
  have hlt4 := hB4.lt
  go_wp2_with (at_builtin; refine wpList_app rfl (.tmp 36) (.tmp 38) _ rfl w.heap.size 5 (.int .u8 0) 1 1 Tryz.underlying32 info_byte rfl (by decide) _ (7 + 8) (((enc5 v).map B ++ [B (byteAt v.support.toNat 1), B (byteAt v.support.toNat 0)]) ++ v.parent.bytes.map B) rfl ?p0 (w4.heap.size) _ 8 8 (v.value.bytes.map B) rfl rfl ?p1 ?p2 ?p3 ?p4 ?p5 ?_)
  case p0 => exact hown4
  case p1 => exact Rd.of_blk hB4 14 8
  case p2 => exact fun u hu => bytes_one hu
  case p3 => omega
  case p4 => unfold maxLen; omega
  case p5 => exact hb4.size
  intro v5 w5 hown5 hg5 hat5
  have hb5 : Below w.heap.size w w5 := below_own hb4 hown4 hg5
  clear hg5 hat5 hB4 hb4 hown4 hlt4
  obtain ⟨A5, c5, rfl⟩ := own_form hown5
  go_wp2
  go_ret2
  refine ⟨A5, c5, rfl, ?_, hb5⟩
  have e : (encB v).map B = ((((enc5 v).map B ++ [B (byteAt v.support.toNat 1), B (byteAt v.support.toNat 0)]) ++ v.parent.bytes.map B) ++ v.value.bytes.map B) := by simp [encB, enc5]
  rw [e]
  exact hown5
end Go.Proofs.YthmecidpjlaonaaGreat
