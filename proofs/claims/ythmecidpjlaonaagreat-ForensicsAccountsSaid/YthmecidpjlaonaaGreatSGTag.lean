/-
  hash.Tagged, hash.Pair and the reference's return the hash of the tagged bytes, and change nothing. Condition: the bytes lie in memory below the call.
  hash.Pair and the reference's Pair return the hash of the tag and two names, and change nothing. No condition.
-/
import Derived.Test.YthmecidpjlaonaaGreatSGSum
import Derived.StillTailTactics
namespace Go.Proofs.YthmecidpjlaonaaGreat
open Go.RowKit
def zeros160 : Array Value := madeCells #[.int .u8 0] 160
theorem size160 : zeros160.size = 160 := size_madeCells _ _
theorem mk160 (W : World) : (Instr.makeSlice 32 (.int .i64 0) (.int .i64 160)).run Tryz.prog W = .ok (.slice (some ⟨W.heap.size, 0, none⟩) 0 160) (W.alloc (.cells zeros160 5)) := by
  obtain ⟨i0, hi, hz0, hz1, hz2⟩ := info_parts info_byte
  have := run_make (P := Tryz.prog) W 32 5 i0 (.int .u8 0) Tryz.underlying32 hi hz0 .i64 .i64 0 160 (by omega) (by omega) (by rw [hz2]; omega) (by omega)
  rw [this, hz1]
  rfl
theorem own_cap {w : World} {base e size n : Nat} {v : Value} {xs : List Value} (h : w.ownsRow base e size v n xs) (hn : 0 < n) : ∃ A c, v = .slice A n c ∧ n ≤ c ∧ c ≤ maxLen := by
  rcases h.2 with ⟨rfl, rfl⟩ | ⟨g, cap, cur, rfl, _, _, h1, h2, _⟩
  · omega
  · exact ⟨_, _, rfl, h1, h2⟩

set_option maxRecDepth 100000 in
set_option maxHeartbeats 1000000 in
theorem tagged_core (t : UInt8) (A : Option Addr) (c : Nat) (l : List UInt8) (r : Nm) (w : World) (hr : Rd w w.heap.size A (l.map B)) (hlen : l.length ≤ 1000000000) (hsum : sumF (t :: l) = r) :
    Calls Tryz.prog 96 #[B t, .slice A l.length c] w (NmPost w r) := by
  have HS := Lib.hid hsum; clear hsum
  have HR := Lib.hid hr; clear hr
  have hmk := mk160
  obtain ⟨xs, hxs⟩ : ∃ xs, xs = l.map B := ⟨_, rfl⟩
  have Hx := Lib.hid hxs; clear hxs
  go_enter Tryz.func96, Tryz.ntmps96
  go_wp2_with (at_builtin; refine wpList_app rfl (.tmp 7) (.tmp 9) _ rfl w.heap.size 5 (.int .u8 0) 1 1 Tryz.underlying32 info_byte rfl (by decide) (.slice (some ⟨w.heap.size + 1, 0, none⟩) 0 160) 0 [] rfl ?r0 (w.heap.size + 3) _ 1 1 [B t] rfl rfl ?r1 ?r2 ?r3 ?r4 ?r5 ?_)
  case r0 =>
    have h := World.ownsRow_made (base := w.heap.size) (e := 5) (size := 1) (w.alloc (.cells #[.int .u8 0, .int .u8 0, .int .u8 0, .int .u8 0, .int .u8 0, .int .u8 0, .int .u8 0, .int .u8 0] 29)) zeros160 160 (by simp) (by unfold maxLen; omega) (by rw [size160])
    have h2 := h.alloc (.cells #[B t] 5)
    simpa using h2
  case r1 =>
    have h := Rd.one ((w.alloc (.cells #[.int .u8 0, .int .u8 0, .int .u8 0, .int .u8 0, .int .u8 0, .int .u8 0, .int .u8 0, .int .u8 0] 29)).alloc (.cells zeros160 5)) (B t) 5
    simpa using h
  case r2 => exact fun u hu => one_cell hu rfl
  case r3 => omega
  case r4 => unfold maxLen; omega
  case r5 => simp; omega
  intro v1 w1 hown1 hg1 hat1
  have hZ1 : Blk w1 w.heap.size 29 #[.int .u8 0, .int .u8 0, .int .u8 0, .int .u8 0, .int .u8 0, .int .u8 0, .int .u8 0, .int .u8 0] := (((Blk.new w _ _).alloc _).alloc _).kept hg1 (by simp [Value.ownBlock])
  have hb1 : Below w.heap.size w w1 := ((((Below.refl _ _).alloc (Nat.le_refl _) _).alloc (by simp) _).alloc (by simp; omega) _).grown hg1 (by simp; omega) (by rintro j hj; simp [Value.ownBlock] at hj; omega)
  clear hg1 hat1 hmk
  go_wp2_with (at_builtin; refine wpList_app rfl (.tmp 10) (.tmp 11) _ rfl w.heap.size 5 (.int .u8 0) 1 1 Tryz.underlying32 info_byte rfl (by decide) _ 1 [B t] rfl ?q0 w.heap.size A l.length c xs rfl ?q1 ?q2 ?q3 ?q4 ?q5 ?q6 ?_)
  case q0 => exact hown1
  case q1 => rw [Hx.out]; simp
  case q2 => rw [Hx.out]; exact HR.out.below hb1
  case q3 => rw [Hx.out]; exact fun u hu => bytes_one hu
  case q4 => omega
  case q5 => unfold maxLen; omega
  case q6 => exact hb1.size
  intro v2 w2 hown2 hg2 hat2
  have hZ2 := hZ1.kept hg2 (own_ne hown1 hZ1 (by decide))
  have hb2 := below_own hb1 hown1 hg2
  clear hg2 hat2 hZ1 hb1 hown1
  have e : [B t] ++ xs = (t :: l).map B := by rw [Hx.out]; simp
  have hown3 : w2.ownsRow w.heap.size 5 1 v2 (t :: l).length ((t :: l).map B) := by
    rw [← e, List.length_cons, Nat.add_comm]; exact hown2
  clear e hown2
  rcases own_cap hown3 (by simp) with ⟨A2, c2, rfl, hc2, hm2⟩
  go_wp2_with fail
  have hcall : Calls Tryz.prog 133 #[.slice A2 (l.length + 1) c2] w2 (NmPost w2 r) := by
    rw [← HS.out]; exact sum_any A2 c2 (t :: l) w2 (Rd.of_own hown3) hc2 hm2 (by simp; omega)
  refine hcall.mono ?_
  clear hcall
  rintro en w5 ⟨rfl, hb5⟩
  have hZ5 := hZ2.below hb5 hZ2.lt
  have hbw5 := hb2.trans (hb5.mono hb2.size)
  clear hZ2 hb2 hb5 hown3
  go_wp2_with (refine wpList_store_blk rfl 29 (.tmp 4) (.tmp 13) rfl w.heap.size _ rfl rfl 29 _ hZ5 rfl size_name ?s2 ?_)
  case s2 => exact ⟨rfl, rfl, rfl, rfl, rfl, rfl, rfl, rfl⟩
  intro w6 hZ6 hg6 hs6
  have hbw6 : Below w.heap.size w w6 := hbw5.grown hg6 hbw5.size (by rintro j ⟨⟩; omega)
  go_wp2
  exact bodyPost_ret (results_cell_row (g := w.heap.size) rfl _ _ _ _ _ _ rfl hZ6 Tryz.underlying29 rfl size_name) rfl ⟨rfl, hbw6⟩

end Go.Proofs.YthmecidpjlaonaaGreat
namespace Go.Proofs.YthmecidpjlaonaaGreat
open Go.RowKit

def pairF (t : UInt8) (x y : Nm) : Nm := sumF (t :: (x.bytes ++ y.bytes))
abbrev Nm.cells (n : Nm) : Array Value := #[B n.b0, B n.b1, B n.b2, B n.b3, B n.b4, B n.b5, B n.b6, B n.b7]

set_option maxRecDepth 100000 in
set_option maxHeartbeats 1000000 in
theorem pair_core (t : UInt8) (x y r : Nm) (w : World) (hsum : sumF (t :: (x.bytes ++ y.bytes)) = r) :
    Calls Tryz.prog 191 #[B t, x.val, y.val] w (NmPost w r) := by
  have HS := Lib.hid hsum; clear hsum
  go_enter Tryz.func191, Tryz.ntmps191
  go_wp2
  have hX : Blk ((((w.alloc (Obj.cells x.cells 29)).alloc (Obj.cells y.cells 29)).alloc (Obj.cells #[.int .u8 0, .int .u8 0, .int .u8 0, .int .u8 0, .int .u8 0, .int .u8 0, .int .u8 0, .int .u8 0] 29)).alloc (Obj.cells #[.int .u8 0, .int .u8 0, .int .u8 0, .int .u8 0, .int .u8 0, .int .u8 0, .int .u8 0, .int .u8 0, .int .u8 0, .int .u8 0, .int .u8 0, .int .u8 0, .int .u8 0, .int .u8 0, .int .u8 0, .int .u8 0] 211)) w.heap.size 29 x.cells := (((Blk.new w _ _).alloc _).alloc _).alloc _
  have hY : Blk ((((w.alloc (Obj.cells x.cells 29)).alloc (Obj.cells y.cells 29)).alloc (Obj.cells #[.int .u8 0, .int .u8 0, .int .u8 0, .int .u8 0, .int .u8 0, .int .u8 0, .int .u8 0, .int .u8 0] 29)).alloc (Obj.cells #[.int .u8 0, .int .u8 0, .int .u8 0, .int .u8 0, .int .u8 0, .int .u8 0, .int .u8 0, .int .u8 0, .int .u8 0, .int .u8 0, .int .u8 0, .int .u8 0, .int .u8 0, .int .u8 0, .int .u8 0, .int .u8 0] 211)) (w.heap.size + 1) 29 y.cells := by
    have := ((Blk.new (w.alloc (Obj.cells x.cells 29)) 29 y.cells).alloc (Obj.cells #[.int .u8 0, .int .u8 0, .int .u8 0, .int .u8 0, .int .u8 0, .int .u8 0, .int .u8 0, .int .u8 0] 29)).alloc (Obj.cells #[.int .u8 0, .int .u8 0, .int .u8 0, .int .u8 0, .int .u8 0, .int .u8 0, .int .u8 0, .int .u8 0, .int .u8 0, .int .u8 0, .int .u8 0, .int .u8 0, .int .u8 0, .int .u8 0, .int .u8 0, .int .u8 0] 211)
    simpa using this
  have hR : Blk ((((w.alloc (Obj.cells x.cells 29)).alloc (Obj.cells y.cells 29)).alloc (Obj.cells #[.int .u8 0, .int .u8 0, .int .u8 0, .int .u8 0, .int .u8 0, .int .u8 0, .int .u8 0, .int .u8 0] 29)).alloc (Obj.cells #[.int .u8 0, .int .u8 0, .int .u8 0, .int .u8 0, .int .u8 0, .int .u8 0, .int .u8 0, .int .u8 0, .int .u8 0, .int .u8 0, .int .u8 0, .int .u8 0, .int .u8 0, .int .u8 0, .int .u8 0, .int .u8 0] 211)) (w.heap.size + 1 + 1) 29 #[.int .u8 0, .int .u8 0, .int .u8 0, .int .u8 0, .int .u8 0, .int .u8 0, .int .u8 0, .int .u8 0] := by
    have := ((Blk.new ((w.alloc (Obj.cells x.cells 29)).alloc (Obj.cells y.cells 29)) 29 #[.int .u8 0, .int .u8 0, .int .u8 0, .int .u8 0, .int .u8 0, .int .u8 0, .int .u8 0, .int .u8 0])).alloc (Obj.cells #[.int .u8 0, .int .u8 0, .int .u8 0, .int .u8 0, .int .u8 0, .int .u8 0, .int .u8 0, .int .u8 0, .int .u8 0, .int .u8 0, .int .u8 0, .int .u8 0, .int .u8 0, .int .u8 0, .int .u8 0, .int .u8 0] 211)
    simpa using this
  have hD : Blk ((((w.alloc (Obj.cells x.cells 29)).alloc (Obj.cells y.cells 29)).alloc (Obj.cells #[.int .u8 0, .int .u8 0, .int .u8 0, .int .u8 0, .int .u8 0, .int .u8 0, .int .u8 0, .int .u8 0] 29)).alloc (Obj.cells #[.int .u8 0, .int .u8 0, .int .u8 0, .int .u8 0, .int .u8 0, .int .u8 0, .int .u8 0, .int .u8 0, .int .u8 0, .int .u8 0, .int .u8 0, .int .u8 0, .int .u8 0, .int .u8 0, .int .u8 0, .int .u8 0] 211)) (w.heap.size + 1 + 1 + 1) 211 [Value.int .u8 0, Value.int .u8 0, Value.int .u8 0, Value.int .u8 0, Value.int .u8 0, Value.int .u8 0, Value.int .u8 0, Value.int .u8 0, Value.int .u8 0, Value.int .u8 0, Value.int .u8 0, Value.int .u8 0, Value.int .u8 0, Value.int .u8 0, Value.int .u8 0, Value.int .u8 0].toArray := by
    have := (Blk.new (((w.alloc (Obj.cells x.cells 29)).alloc (Obj.cells y.cells 29)).alloc (Obj.cells #[.int .u8 0, .int .u8 0, .int .u8 0, .int .u8 0, .int .u8 0, .int .u8 0, .int .u8 0, .int .u8 0] 29)) 211 #[.int .u8 0, .int .u8 0, .int .u8 0, .int .u8 0, .int .u8 0, .int .u8 0, .int .u8 0, .int .u8 0, .int .u8 0, .int .u8 0, .int .u8 0, .int .u8 0, .int .u8 0, .int .u8 0, .int .u8 0, .int .u8 0])
    simpa using this
  have hbW : Below w.heap.size w ((((w.alloc (Obj.cells x.cells 29)).alloc (Obj.cells y.cells 29)).alloc (Obj.cells #[.int .u8 0, .int .u8 0, .int .u8 0, .int .u8 0, .int .u8 0, .int .u8 0, .int .u8 0, .int .u8 0] 29)).alloc (Obj.cells #[.int .u8 0, .int .u8 0, .int .u8 0, .int .u8 0, .int .u8 0, .int .u8 0, .int .u8 0, .int .u8 0, .int .u8 0, .int .u8 0, .int .u8 0, .int .u8 0, .int .u8 0, .int .u8 0, .int .u8 0, .int .u8 0] 211)) := ((((Below.refl _ _).alloc (Nat.le_refl _) _).alloc (by simp) _).alloc (by simp; omega) _).alloc (by simp; omega) _
  generalize ((((w.alloc (Obj.cells x.cells 29)).alloc (Obj.cells y.cells 29)).alloc (Obj.cells #[.int .u8 0, .int .u8 0, .int .u8 0, .int .u8 0, .int .u8 0, .int .u8 0, .int .u8 0, .int .u8 0] 29)).alloc (Obj.cells #[.int .u8 0, .int .u8 0, .int .u8 0, .int .u8 0, .int .u8 0, .int .u8 0, .int .u8 0, .int .u8 0, .int .u8 0, .int .u8 0, .int .u8 0, .int .u8 0, .int .u8 0, .int .u8 0, .int .u8 0, .int .u8 0] 211)) = W at *
  refine wp_region_still_tail 2 (by kernel_rfl) (by kernel_rfl) ?_
  simp only [List.take_succ_cons, List.take_zero, List.drop_succ_cons, List.drop_zero]
  iterate 2 still_step
  refine wpStill_nil ?_
  change wpList _ _ _ _ _ W.drew
  replace hX := hX.drew
  replace hY := hY.drew
  replace hR := hR.drew
  replace hD := hD.drew
  replace hbW := hbW.drew
  generalize W.drew = W1 at *
  refine wpList_copy_splice rfl (.tmp 8) (.tmp 9) _ _ rfl 5 Tryz.underlying32 (by kernel_rfl) _ _ _ _ _ _ rfl rfl (w.heap.size + 1 + 1 + 1) 0 [Value.int .u8 0, Value.int .u8 0, Value.int .u8 0, Value.int .u8 0, Value.int .u8 0, Value.int .u8 0, Value.int .u8 0, Value.int .u8 0, Value.int .u8 0, Value.int .u8 0, Value.int .u8 0, Value.int .u8 0, Value.int .u8 0, Value.int .u8 0, Value.int .u8 0, Value.int .u8 0] 211 hD (x.bytes.map B) rfl ?h3 (by simp [Nm.bytes]) (fun u hu => bytes_one hu) (w.heap.size + 1 + 1 + 1) W1 (Below.refl _ _) (Nat.le_refl _) ?_
  case h3 =>
    intro _
    refine ⟨rfl, _, rfl, fun j v hv => ?_⟩
    rw [Addr.add_mid, hX.cell, Nat.zero_add]
    simpa [Nm.bytes] using hv
  intro w2 hg2 hb2
  have hY2 := hY.below hb2 (by omega)
  have hR2 := hR.below hb2 (by omega)
  have hbw2 := hbW.trans (hb2.mono (by omega))
  have hD2 : Blk w2 (w.heap.size + 1 + 1 + 1) 211 (x.bytes.map B ++ [Value.int .u8 0, Value.int .u8 0, Value.int .u8 0, Value.int .u8 0, Value.int .u8 0, Value.int .u8 0, Value.int .u8 0, Value.int .u8 0, Value.int .u8 0, Value.int .u8 0, Value.int .u8 0, Value.int .u8 0, Value.int .u8 0, Value.int .u8 0, Value.int .u8 0, Value.int .u8 0].drop 8).toArray := hg2.out
  clear hX hY hR hD hbW hb2 hg2
  go_frame
  go_wp2
  refine wp_region_still_tail 2 (by kernel_rfl) (by kernel_rfl) ?_
  simp only [List.take_succ_cons, List.take_zero, List.drop_succ_cons, List.drop_zero]
  iterate 2 still_step
  refine wpStill_nil ?_
  change wpList _ _ _ _ _ w2.drew
  replace hY2 := hY2.drew
  replace hR2 := hR2.drew
  replace hD2 := hD2.drew
  replace hbw2 := hbw2.drew
  generalize w2.drew = w3 at *
  refine wpList_copy_splice rfl (.tmp 11) (.tmp 12) _ _ rfl 5 Tryz.underlying32 (by kernel_rfl) _ _ _ _ _ _ rfl rfl (w.heap.size + 1 + 1 + 1) 8 _ 211 hD2 (y.bytes.map B) rfl ?h4 (by simp [Nm.bytes]) (fun u hu => bytes_one hu) (w.heap.size + 1 + 1 + 1) w3 (Below.refl _ _) (Nat.le_refl _) ?_
  case h4 =>
    intro _
    refine ⟨rfl, _, rfl, fun j v hv => ?_⟩
    rw [Addr.add_mid, hY2.cell, Nat.zero_add]
    simpa [Nm.bytes] using hv
  intro w4 hg4 hb4
  have hR4 := hR2.below hb4 (by omega)
  have hbw4 := hbw2.trans (hb4.mono (by omega))
  have hD4 : Blk w4 (w.heap.size + 1 + 1 + 1) 211 ((x.bytes ++ y.bytes).map B).toArray := by
    have h := hg4.out
    unfold Blk
    simpa [splice, Nm.bytes] using h
  have hlt := hD4.lt
  clear hY2 hR2 hD2 hbw2 hb4 hg4
  go_frame
  go_wp2_with fail
  have hrd : Rd w4 w4.heap.size (some ⟨w.heap.size + 1 + 1 + 1, 0, none⟩) ((x.bytes ++ y.bytes).map B) := by
    have h := Rd.of_blk hD4 0 16
    simpa [Nm.bytes] using h
  have hcall : Calls Tryz.prog 96 #[B t, .slice (some ⟨w.heap.size + 1 + 1 + 1, 0, none⟩) 16 16] w4 (NmPost w4 r) := tagged_core t _ 16 (x.bytes ++ y.bytes) r w4 hrd (by simp [Nm.bytes]) HS.out
  refine hcall.mono ?_
  clear hcall hrd hD4
  rintro en w5 ⟨rfl, hb5⟩
  have hZ5 := hR4.below hb5 hR4.lt
  have hbw5 := hbw4.trans (hb5.mono hbw4.size)
  clear hR4 hbw4 hb5
  go_wp2_with (refine wpList_store_blk rfl 29 (.tmp 6) (.tmp 16) rfl (w.heap.size + 1 + 1) _ rfl rfl 29 _ hZ5 rfl size_name ?s2 ?_)
  case s2 => exact ⟨rfl, rfl, rfl, rfl, rfl, rfl, rfl, rfl⟩
  intro w6 hZ6 hg6 hs6
  have hbw6 : Below w.heap.size w w6 := hbw5.grown hg6 hbw5.size (by rintro j ⟨⟩; omega)
  go_wp2
  exact bodyPost_ret (results_cell_row (g := w.heap.size + 1 + 1) rfl _ _ _ _ _ _ rfl hZ6 Tryz.underlying29 rfl size_name) rfl ⟨rfl, hbw6⟩

end Go.Proofs.YthmecidpjlaonaaGreat
