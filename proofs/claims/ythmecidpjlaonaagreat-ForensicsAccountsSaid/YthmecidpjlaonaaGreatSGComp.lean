/-
  merkle.computed returns the root that follows from a leaf and a path (followF), and changes nothing. Condition: the number of names is a power of two and the path lies in memory below the call.
  merkle.computed, one step: from the contract at half the names to the contract at all of them. Condition: as for merkle.computed.
  merkle.computed, the step to the right: from the contract at half the names to the contract at all of them. Condition: as for merkle.computed.
  merkle.computed, by induction on the depth: the root that follows from a leaf and a path. Condition: the number of names is a power of two and the path lies in memory below the call.
-/
import Derived.Test.YthmecidpjlaonaaGreatSGMerk
namespace Go.Proofs.YthmecidpjlaonaaGreat
open Go.RowKit

abbrev nmc (n : Nm) : List Value := [B n.b0, B n.b1, B n.b2, B n.b3, B n.b4, B n.b5, B n.b6, B n.b7]
/-- The root that follows from a leaf at position i among 2^d names and its path. -/
def followF (leaf : Nm) : Nat → Nat → List Nm → Nm
  | 0, _, _ => leafF leaf
  | d + 1, i, path =>
    if i < 2 ^ d then pairF 18 (followF leaf d i path) (path.getD d Nm.zero)
    else pairF 18 (path.getD d Nm.zero) (followF leaf d (i - 2 ^ d) path)
theorem nmc_len (l : List Nm) : ∀ n ∈ l, (nmc n).length = 8 := fun _ _ => rfl

set_option maxRecDepth 100000 in
set_option maxHeartbeats 1000000 in
theorem computed_zero (i : Nat) (leaf r : Nm) (A : Option Addr) (c : Nat) (w : World) (hr : sumF (17 :: leaf.bytes) = r) :
    Calls Tryz.prog 164 #[leaf.val, .int .i64 (i : Int), .int .i64 1, .slice A 0 c] w (NmPost w r) := by
  have HS := Lib.hid hr; clear hr
  go_enter Tryz.func164, Tryz.ntmps164
  go_wp2_with fail
  have hR : Blk ((w.alloc (Obj.cells leaf.cells 29)).alloc (Obj.cells #[.int .u8 0, .int .u8 0, .int .u8 0, .int .u8 0, .int .u8 0, .int .u8 0, .int .u8 0, .int .u8 0] 29)) (w.heap.size + 1) 29 #[.int .u8 0, .int .u8 0, .int .u8 0, .int .u8 0, .int .u8 0, .int .u8 0, .int .u8 0, .int .u8 0] := by
    have := Blk.new (w.alloc (Obj.cells leaf.cells 29)) 29 #[.int .u8 0, .int .u8 0, .int .u8 0, .int .u8 0, .int .u8 0, .int .u8 0, .int .u8 0, .int .u8 0]
    simpa using this
  have hbW : Below w.heap.size w ((w.alloc (Obj.cells leaf.cells 29)).alloc (Obj.cells #[.int .u8 0, .int .u8 0, .int .u8 0, .int .u8 0, .int .u8 0, .int .u8 0, .int .u8 0, .int .u8 0] 29)) := ((Below.refl _ _).alloc (Nat.le_refl _) _).alloc (by simp) _
  generalize ((w.alloc (Obj.cells leaf.cells 29)).alloc (Obj.cells #[.int .u8 0, .int .u8 0, .int .u8 0, .int .u8 0, .int .u8 0, .int .u8 0, .int .u8 0, .int .u8 0] 29)) = W at *
  refine (single_core leaf r W HS.out).mono ?_
  rintro en w5 ⟨rfl, hb5⟩
  have hZ5 := hR.below hb5 hR.lt
  have hbw5 := hbW.trans (hb5.mono hbW.size)
  clear hR hbW hb5
  go_wp2_with (refine wpList_store_blk rfl 29 (.tmp 8) (.tmp 14) rfl (w.heap.size + 1) _ rfl rfl 29 _ hZ5 rfl size_name ?s2 ?_)
  case s2 => exact ⟨rfl, rfl, rfl, rfl, rfl, rfl, rfl, rfl⟩
  intro w6 hZ6 hg6 hs6
  have hbw6 : Below w.heap.size w w6 := hbw5.grown hg6 hbw5.size (by rintro j ⟨⟩; omega)
  go_wp2
  exact bodyPost_ret (results_cell_row (g := w.heap.size + 1) rfl _ _ _ _ _ _ rfl hZ6 Tryz.underlying29 rfl size_name) rfl ⟨rfl, hbw6⟩
end Go.Proofs.YthmecidpjlaonaaGreat
namespace Go.Proofs.YthmecidpjlaonaaGreat
open Go.RowKit
attribute [local go_sem ↓] Go.wp_at_zero Go.wp_at_succ
set_option maxRecDepth 100000 in
set_option maxHeartbeats 2000000 in
theorem computed_lt (d i n k c b o : Nat) (leaf r1 up r : Nm) (w : World) (hk : k = 2 ^ d) (hn : n = 2 ^ (d + 1)) (hd : d ≤ 40) (hik : i < k) (hc : d + 1 ≤ c) (hb : b < w.heap.size)
    (hup : ∀ j u, (nmc up)[j]? = some u → w.cell? ⟨b, o + d * 8 + j, none⟩ = some u)
    (h1 : ∀ W, Below w.heap.size w W → Calls Tryz.prog 164 #[leaf.val, .int .i64 (i : Int), .int .i64 (k : Int), .slice (some ⟨b, o, none⟩) d c] W (NmPost W r1)) (hr : sumF (18 :: (r1.bytes ++ up.bytes)) = r) :
    Calls Tryz.prog 164 #[leaf.val, .int .i64 (i : Int), .int .i64 (n : Int), .slice (some ⟨b, o, none⟩) (d + 1) c] w (NmPost w r) := by
  have HS := Lib.hid hr; clear hr
  have H1 := Lib.hid h1; clear h1
  have Hup := Lib.hid hup; clear hup
  have hk1 : 1 ≤ k := by rw [hk]; exact Nat.one_le_two_pow
  have hkb : k ≤ 1099511627776 := by rw [hk]; exact Nat.pow_le_pow_right (j := 40) (by omega) hd
  have h2 : n = 2 * k := by rw [hn, hk, Nat.pow_succ]; omega
  have hcall : ∀ W, Calls Tryz.prog 189 #[.int .i64 (n : Int)] W fun en w' => en = .returned (.int .i64 (k : Int)) ∧ w' = W := fun W => by
    rw [hk]; exact split_pow d n W hn hd
  have HC := Lib.hid hcall; clear hcall
  have hne : ((n : Int) == 1) = false := by rw [beq_eq_false_iff_ne]; omega
  have h3 : n ≤ 2 * k := by omega
  have h4 : 2 * k ≤ n := by omega
  clear h2 hk hn
  go_enter Tryz.func164, Tryz.ntmps164
  go_wp2_with ((go_at_call 189; refine (HC.out _).mono ?_; rintro en w' ⟨rfl, rfl⟩))
  have hX : Blk ((w.alloc (Obj.cells leaf.cells 29)).alloc (Obj.cells #[.int .u8 0, .int .u8 0, .int .u8 0, .int .u8 0, .int .u8 0, .int .u8 0, .int .u8 0, .int .u8 0] 29)) w.heap.size 29 leaf.cells := (Blk.new w _ _).alloc _
  have hR : Blk ((w.alloc (Obj.cells leaf.cells 29)).alloc (Obj.cells #[.int .u8 0, .int .u8 0, .int .u8 0, .int .u8 0, .int .u8 0, .int .u8 0, .int .u8 0, .int .u8 0] 29)) (w.heap.size + 1) 29 #[.int .u8 0, .int .u8 0, .int .u8 0, .int .u8 0, .int .u8 0, .int .u8 0, .int .u8 0, .int .u8 0] := by
    have := Blk.new (w.alloc (Obj.cells leaf.cells 29)) 29 #[.int .u8 0, .int .u8 0, .int .u8 0, .int .u8 0, .int .u8 0, .int .u8 0, .int .u8 0, .int .u8 0]
    simpa using this
  have hbW : Below w.heap.size w ((w.alloc (Obj.cells leaf.cells 29)).alloc (Obj.cells #[.int .u8 0, .int .u8 0, .int .u8 0, .int .u8 0, .int .u8 0, .int .u8 0, .int .u8 0, .int .u8 0] 29)) := ((Below.refl _ _).alloc (Nat.le_refl _) _).alloc (by simp) _
  generalize ((w.alloc (Obj.cells leaf.cells 29)).alloc (Obj.cells #[.int .u8 0, .int .u8 0, .int .u8 0, .int .u8 0, .int .u8 0, .int .u8 0, .int .u8 0, .int .u8 0] 29)) = W at *
  have x0 : W.cell? ⟨w.heap.size, 0, none⟩ = some (B leaf.b0) := hX.cell 0
  have x1 : W.cell? ⟨w.heap.size, 1, none⟩ = some (B leaf.b1) := hX.cell 1
  have x2 : W.cell? ⟨w.heap.size, 2, none⟩ = some (B leaf.b2) := hX.cell 2
  have x3 : W.cell? ⟨w.heap.size, 3, none⟩ = some (B leaf.b3) := hX.cell 3
  have x4 : W.cell? ⟨w.heap.size, 4, none⟩ = some (B leaf.b4) := hX.cell 4
  have x5 : W.cell? ⟨w.heap.size, 5, none⟩ = some (B leaf.b5) := hX.cell 5
  have x6 : W.cell? ⟨w.heap.size, 6, none⟩ = some (B leaf.b6) := hX.cell 6
  have x7 : W.cell? ⟨w.heap.size, 7, none⟩ = some (B leaf.b7) := hX.cell 7
  have y0 : W.cell? ⟨b, o + d * 8, none⟩ = some (B up.b0) := (hbW.cell (p := ⟨b, o + d * 8, none⟩) hb).trans (Hup.out 0 _ rfl)
  have y1 : W.cell? ⟨b, o + d * 8 + 1, none⟩ = some (B up.b1) := (hbW.cell (p := ⟨b, o + d * 8 + 1, none⟩) hb).trans (Hup.out 1 _ rfl)
  have y2 : W.cell? ⟨b, o + d * 8 + 2, none⟩ = some (B up.b2) := (hbW.cell (p := ⟨b, o + d * 8 + 2, none⟩) hb).trans (Hup.out 2 _ rfl)
  have y3 : W.cell? ⟨b, o + d * 8 + 3, none⟩ = some (B up.b3) := (hbW.cell (p := ⟨b, o + d * 8 + 3, none⟩) hb).trans (Hup.out 3 _ rfl)
  have y4 : W.cell? ⟨b, o + d * 8 + 4, none⟩ = some (B up.b4) := (hbW.cell (p := ⟨b, o + d * 8 + 4, none⟩) hb).trans (Hup.out 4 _ rfl)
  have y5 : W.cell? ⟨b, o + d * 8 + 5, none⟩ = some (B up.b5) := (hbW.cell (p := ⟨b, o + d * 8 + 5, none⟩) hb).trans (Hup.out 5 _ rfl)
  have y6 : W.cell? ⟨b, o + d * 8 + 6, none⟩ = some (B up.b6) := (hbW.cell (p := ⟨b, o + d * 8 + 6, none⟩) hb).trans (Hup.out 6 _ rfl)
  have y7 : W.cell? ⟨b, o + d * 8 + 7, none⟩ = some (B up.b7) := (hbW.cell (p := ⟨b, o + d * 8 + 7, none⟩) hb).trans (Hup.out 7 _ rfl)
  have hlt0 := hX.lt
  have hlt := hR.lt
  have hltb : b < W.heap.size := Nat.lt_of_lt_of_le hb hbW.size
  have i1 : (0 : Int) ≤ (d : Int) := by omega
  have i2 : (d : Int) < (d : Int) + 1 := by omega
  have i3 : (d : Int) ≤ (c : Int) := by omega
  have n1 : ¬ w.heap.size + 1 = b := by omega
  have n2 : ¬ b = w.heap.size + 1 := by omega
  have HH1 : Hid (Calls Tryz.prog 164 #[leaf.val, .int .i64 (i : Int), .int .i64 (k : Int), .slice (some ⟨b, o, none⟩) d c] W.drew fun e w' => e = .returned r1.val ∧ Below W.heap.size W w' ∧ (w'.cell? ⟨w.heap.size, 0, none⟩ = some (B leaf.b0) ∧ w'.cell? ⟨w.heap.size, 1, none⟩ = some (B leaf.b1) ∧ w'.cell? ⟨w.heap.size, 2, none⟩ = some (B leaf.b2) ∧ w'.cell? ⟨w.heap.size, 3, none⟩ = some (B leaf.b3) ∧ w'.cell? ⟨w.heap.size, 4, none⟩ = some (B leaf.b4) ∧ w'.cell? ⟨w.heap.size, 5, none⟩ = some (B leaf.b5) ∧ w'.cell? ⟨w.heap.size, 6, none⟩ = some (B leaf.b6) ∧ w'.cell? ⟨w.heap.size, 7, none⟩ = some (B leaf.b7) ∧ w'.cell? ⟨b, o + d * 8, none⟩ = some (B up.b0) ∧ w'.cell? ⟨b, o + d * 8 + 1, none⟩ = some (B up.b1) ∧ w'.cell? ⟨b, o + d * 8 + 2, none⟩ = some (B up.b2) ∧ w'.cell? ⟨b, o + d * 8 + 3, none⟩ = some (B up.b3) ∧ w'.cell? ⟨b, o + d * 8 + 4, none⟩ = some (B up.b4) ∧ w'.cell? ⟨b, o + d * 8 + 5, none⟩ = some (B up.b5) ∧ w'.cell? ⟨b, o + d * 8 + 6, none⟩ = some (B up.b6) ∧ w'.cell? ⟨b, o + d * 8 + 7, none⟩ = some (B up.b7))) := by
    refine (H1.out _ hbW.drew).mono ?_
    rintro en w1 ⟨rfl, hb1⟩
    have hb2 : Below W.heap.size W w1 := (Below.refl _ _).drew.trans hb1
    exact ⟨rfl, hb2, (hb2.cell (p := ⟨w.heap.size, 0, none⟩) hlt0).trans x0, (hb2.cell (p := ⟨w.heap.size, 1, none⟩) hlt0).trans x1, (hb2.cell (p := ⟨w.heap.size, 2, none⟩) hlt0).trans x2, (hb2.cell (p := ⟨w.heap.size, 3, none⟩) hlt0).trans x3, (hb2.cell (p := ⟨w.heap.size, 4, none⟩) hlt0).trans x4, (hb2.cell (p := ⟨w.heap.size, 5, none⟩) hlt0).trans x5, (hb2.cell (p := ⟨w.heap.size, 6, none⟩) hlt0).trans x6, (hb2.cell (p := ⟨w.heap.size, 7, none⟩) hlt0).trans x7, (hb2.cell (p := ⟨b, o + d * 8, none⟩) hltb).trans y0, (hb2.cell (p := ⟨b, o + d * 8 + 1, none⟩) hltb).trans y1, (hb2.cell (p := ⟨b, o + d * 8 + 2, none⟩) hltb).trans y2, (hb2.cell (p := ⟨b, o + d * 8 + 3, none⟩) hltb).trans y3, (hb2.cell (p := ⟨b, o + d * 8 + 4, none⟩) hltb).trans y4, (hb2.cell (p := ⟨b, o + d * 8 + 5, none⟩) hltb).trans y5, (hb2.cell (p := ⟨b, o + d * 8 + 6, none⟩) hltb).trans y6, (hb2.cell (p := ⟨b, o + d * 8 + 7, none⟩) hltb).trans y7⟩
  have HH2 : Hid (∀ w1, Below W.heap.size W w1 → Calls Tryz.prog 191 #[.int .u8 18, r1.val, up.val] w1 fun e w' => e = .returned r.val ∧ Below W.heap.size W w' ∧ (w'.cell? ⟨w.heap.size, 0, none⟩ = some (B leaf.b0) ∧ w'.cell? ⟨w.heap.size, 1, none⟩ = some (B leaf.b1) ∧ w'.cell? ⟨w.heap.size, 2, none⟩ = some (B leaf.b2) ∧ w'.cell? ⟨w.heap.size, 3, none⟩ = some (B leaf.b3) ∧ w'.cell? ⟨w.heap.size, 4, none⟩ = some (B leaf.b4) ∧ w'.cell? ⟨w.heap.size, 5, none⟩ = some (B leaf.b5) ∧ w'.cell? ⟨w.heap.size, 6, none⟩ = some (B leaf.b6) ∧ w'.cell? ⟨w.heap.size, 7, none⟩ = some (B leaf.b7) ∧ w'.cell? ⟨b, o + d * 8, none⟩ = some (B up.b0) ∧ w'.cell? ⟨b, o + d * 8 + 1, none⟩ = some (B up.b1) ∧ w'.cell? ⟨b, o + d * 8 + 2, none⟩ = some (B up.b2) ∧ w'.cell? ⟨b, o + d * 8 + 3, none⟩ = some (B up.b3) ∧ w'.cell? ⟨b, o + d * 8 + 4, none⟩ = some (B up.b4) ∧ w'.cell? ⟨b, o + d * 8 + 5, none⟩ = some (B up.b5) ∧ w'.cell? ⟨b, o + d * 8 + 6, none⟩ = some (B up.b6) ∧ w'.cell? ⟨b, o + d * 8 + 7, none⟩ = some (B up.b7)) ∧ (w'.cell? ⟨w.heap.size + 1, 0, none⟩ = some (.int .u8 0) ∧ w'.frozen? ⟨w.heap.size + 1, 0, none⟩ = false ∧ w'.cell? ⟨w.heap.size + 1, 1, none⟩ = some (.int .u8 0) ∧ w'.frozen? ⟨w.heap.size + 1, 1, none⟩ = false ∧ w'.cell? ⟨w.heap.size + 1, 2, none⟩ = some (.int .u8 0) ∧ w'.frozen? ⟨w.heap.size + 1, 2, none⟩ = false ∧ w'.cell? ⟨w.heap.size + 1, 3, none⟩ = some (.int .u8 0) ∧ w'.frozen? ⟨w.heap.size + 1, 3, none⟩ = false ∧ w'.cell? ⟨w.heap.size + 1, 4, none⟩ = some (.int .u8 0) ∧ w'.frozen? ⟨w.heap.size + 1, 4, none⟩ = false ∧ w'.cell? ⟨w.heap.size + 1, 5, none⟩ = some (.int .u8 0) ∧ w'.frozen? ⟨w.heap.size + 1, 5, none⟩ = false ∧ w'.cell? ⟨w.heap.size + 1, 6, none⟩ = some (.int .u8 0) ∧ w'.frozen? ⟨w.heap.size + 1, 6, none⟩ = false ∧ w'.cell? ⟨w.heap.size + 1, 7, none⟩ = some (.int .u8 0) ∧ w'.frozen? ⟨w.heap.size + 1, 7, none⟩ = false)) := by
    intro w1 hbx
    refine (pair_core 18 r1 up r _ HS.out).mono ?_
    rintro en w2 ⟨rfl, hb1⟩
    have hb2 : Below W.heap.size W w2 := hbx.trans (hb1.mono hbx.size)
    have hR2 := hR.below hb2 hR.lt
    exact ⟨rfl, hb2, ⟨(hb2.cell (p := ⟨w.heap.size, 0, none⟩) hlt0).trans x0, (hb2.cell (p := ⟨w.heap.size, 1, none⟩) hlt0).trans x1, (hb2.cell (p := ⟨w.heap.size, 2, none⟩) hlt0).trans x2, (hb2.cell (p := ⟨w.heap.size, 3, none⟩) hlt0).trans x3, (hb2.cell (p := ⟨w.heap.size, 4, none⟩) hlt0).trans x4, (hb2.cell (p := ⟨w.heap.size, 5, none⟩) hlt0).trans x5, (hb2.cell (p := ⟨w.heap.size, 6, none⟩) hlt0).trans x6, (hb2.cell (p := ⟨w.heap.size, 7, none⟩) hlt0).trans x7, (hb2.cell (p := ⟨b, o + d * 8, none⟩) hltb).trans y0, (hb2.cell (p := ⟨b, o + d * 8 + 1, none⟩) hltb).trans y1, (hb2.cell (p := ⟨b, o + d * 8 + 2, none⟩) hltb).trans y2, (hb2.cell (p := ⟨b, o + d * 8 + 3, none⟩) hltb).trans y3, (hb2.cell (p := ⟨b, o + d * 8 + 4, none⟩) hltb).trans y4, (hb2.cell (p := ⟨b, o + d * 8 + 5, none⟩) hltb).trans y5, (hb2.cell (p := ⟨b, o + d * 8 + 6, none⟩) hltb).trans y6, (hb2.cell (p := ⟨b, o + d * 8 + 7, none⟩) hltb).trans y7⟩, hR2.cell 0, hR2.frozen 0, hR2.cell 1, hR2.frozen 1, hR2.cell 2, hR2.frozen 2, hR2.cell 3, hR2.frozen 3, hR2.cell 4, hR2.frozen 4, hR2.cell 5, hR2.frozen 5, hR2.cell 6, hR2.frozen 6, hR2.cell 7, hR2.frozen 7⟩
  go_region_held3 (fun w' => w'.cell? ⟨w.heap.size, 0, none⟩ = some (B leaf.b0) ∧ w'.cell? ⟨w.heap.size, 1, none⟩ = some (B leaf.b1) ∧ w'.cell? ⟨w.heap.size, 2, none⟩ = some (B leaf.b2) ∧ w'.cell? ⟨w.heap.size, 3, none⟩ = some (B leaf.b3) ∧ w'.cell? ⟨w.heap.size, 4, none⟩ = some (B leaf.b4) ∧ w'.cell? ⟨w.heap.size, 5, none⟩ = some (B leaf.b5) ∧ w'.cell? ⟨w.heap.size, 6, none⟩ = some (B leaf.b6) ∧ w'.cell? ⟨w.heap.size, 7, none⟩ = some (B leaf.b7) ∧ w'.cell? ⟨b, o + d * 8, none⟩ = some (B up.b0) ∧ w'.cell? ⟨b, o + d * 8 + 1, none⟩ = some (B up.b1) ∧ w'.cell? ⟨b, o + d * 8 + 2, none⟩ = some (B up.b2) ∧ w'.cell? ⟨b, o + d * 8 + 3, none⟩ = some (B up.b3) ∧ w'.cell? ⟨b, o + d * 8 + 4, none⟩ = some (B up.b4) ∧ w'.cell? ⟨b, o + d * 8 + 5, none⟩ = some (B up.b5) ∧ w'.cell? ⟨b, o + d * 8 + 6, none⟩ = some (B up.b6) ∧ w'.cell? ⟨b, o + d * 8 + 7, none⟩ = some (B up.b7)) (go_keep)
    ((first
      | (go_at_call 164; refine HH1.out.mono ?_; rintro en w1 ⟨rfl, hb1, p0, p1, p2, p3, p4, p5, p6, p7, p8, p9, p10, p11, p12, p13, p14, p15⟩)
      | (go_at_call 191; refine (HH2.out _ hb1).mono ?_; rintro en w2 ⟨rfl, hb2, ⟨q0, q1, q2, q3, q4, q5, q6, q7, q8, q9, q10, q11, q12, q13, q14, q15⟩, z0, f0, z1, f1, z2, f2, z3, f3, z4, f4, z5, f5, z6, f6, z7, f7⟩)))
  all_goals
    have hbW2 : Below w.heap.size w w2 := hbW.trans (hb2.mono hbW.size)
    have hR6 := (((((((((hR.below hb2 hR.lt).put 0 (B r.b0)).put 1 (B r.b1)).put 2 (B r.b2)).put 3 (B r.b3)).put 4 (B r.b4)).put 5 (B r.b5)).put 6 (B r.b6)).put 7 (B r.b7))
    have hbw6 := ((((((((hbW2.setCell (p := ⟨w.heap.size + 1, 0, none⟩) (by simp) (B r.b0)).setCell (p := ⟨w.heap.size + 1, 1, none⟩) (by simp) (B r.b1)).setCell (p := ⟨w.heap.size + 1, 2, none⟩) (by simp) (B r.b2)).setCell (p := ⟨w.heap.size + 1, 3, none⟩) (by simp) (B r.b3)).setCell (p := ⟨w.heap.size + 1, 4, none⟩) (by simp) (B r.b4)).setCell (p := ⟨w.heap.size + 1, 5, none⟩) (by simp) (B r.b5)).setCell (p := ⟨w.heap.size + 1, 6, none⟩) (by simp) (B r.b6)).setCell (p := ⟨w.heap.size + 1, 7, none⟩) (by simp) (B r.b7))
    clear p0 p1 p2 p3 p4 p5 p6 p7 p8 p9 p10 p11 p12 p13 p14 p15 q0 q1 q2 q3 q4 q5 q6 q7 q8 q9 q10 q11 q12 q13 q14 q15 z0 z1 z2 z3 z4 z5 z6 z7 f0 f1 f2 f3 f4 f5 f6 f7 x0 x1 x2 x3 x4 x5 x6 x7 y0 y1 y2 y3 y4 y5 y6 y7 HH1 HH2 hR hX
    go_wp2
    exact bodyPost_ret (results_cell_row (g := w.heap.size + 1) (cs := r.cells) rfl _ _ _ _ _ rfl hR6 Tryz.underlying29 rfl size_name) rfl ⟨rfl, hbw6⟩
end Go.Proofs.YthmecidpjlaonaaGreat
namespace Go.Proofs.YthmecidpjlaonaaGreat
open Go.RowKit
attribute [local go_sem ↓] Go.wp_at_zero Go.wp_at_succ
set_option maxRecDepth 100000 in
set_option maxHeartbeats 2000000 in
theorem computed_ge (d i n k c b o : Nat) (leaf r1 up r : Nm) (w : World) (hk : k = 2 ^ d) (hn : n = 2 ^ (d + 1)) (hd : d ≤ 40) (hik : k ≤ i) (hin : i < n) (hc : d + 1 ≤ c) (hb : b < w.heap.size)
    (hup : ∀ j u, (nmc up)[j]? = some u → w.cell? ⟨b, o + d * 8 + j, none⟩ = some u)
    (h1 : ∀ W, Below w.heap.size w W → Calls Tryz.prog 164 #[leaf.val, .int .i64 ((i - k : Nat) : Int), .int .i64 (k : Int), .slice (some ⟨b, o, none⟩) d c] W (NmPost W r1)) (hr : sumF (18 :: (up.bytes ++ r1.bytes)) = r) :
    Calls Tryz.prog 164 #[leaf.val, .int .i64 (i : Int), .int .i64 (n : Int), .slice (some ⟨b, o, none⟩) (d + 1) c] w (NmPost w r) := by
  have HS := Lib.hid hr; clear hr
  have H1 := Lib.hid h1; clear h1
  have Hup := Lib.hid hup; clear hup
  have hk1 : 1 ≤ k := by rw [hk]; exact Nat.one_le_two_pow
  have hkb : k ≤ 1099511627776 := by rw [hk]; exact Nat.pow_le_pow_right (j := 40) (by omega) hd
  have h2 : n = 2 * k := by rw [hn, hk, Nat.pow_succ]; omega
  have hcall : ∀ W, Calls Tryz.prog 189 #[.int .i64 (n : Int)] W fun en w' => en = .returned (.int .i64 (k : Int)) ∧ w' = W := fun W => by
    rw [hk]; exact split_pow d n W hn hd
  have HC := Lib.hid hcall; clear hcall
  have hne : ((n : Int) == 1) = false := by rw [beq_eq_false_iff_ne]; omega
  have h3 : n ≤ 2 * k := by omega
  have h4 : 2 * k ≤ n := by omega
  clear h2 hk hn
  have hnl : ¬ ((i : Int) < (k : Int)) := by omega
  have hw1 : IntKind.i64.wrap ((i : Int) - (k : Int)) = ((i - k : Nat) : Int) := by rw [IntKind.wrap_i64]; omega
  have hw2 : IntKind.i64.wrap ((n : Int) - (k : Int)) = (k : Int) := by rw [IntKind.wrap_i64]; omega
  go_enter Tryz.func164, Tryz.ntmps164
  go_wp2_with ((go_at_call 189; refine (HC.out _).mono ?_; rintro en w' ⟨rfl, rfl⟩))
  have hX : Blk ((w.alloc (Obj.cells leaf.cells 29)).alloc (Obj.cells #[.int .u8 0, .int .u8 0, .int .u8 0, .int .u8 0, .int .u8 0, .int .u8 0, .int .u8 0, .int .u8 0] 29)) w.heap.size 29 leaf.cells := (Blk.new w _ _).alloc _
  have hR : Blk ((w.alloc (Obj.cells leaf.cells 29)).alloc (Obj.cells #[.int .u8 0, .int .u8 0, .int .u8 0, .int .u8 0, .int .u8 0, .int .u8 0, .int .u8 0, .int .u8 0] 29)) (w.heap.size + 1) 29 #[.int .u8 0, .int .u8 0, .int .u8 0, .int .u8 0, .int .u8 0, .int .u8 0, .int .u8 0, .int .u8 0] := by
    have := Blk.new (w.alloc (Obj.cells leaf.cells 29)) 29 #[.int .u8 0, .int .u8 0, .int .u8 0, .int .u8 0, .int .u8 0, .int .u8 0, .int .u8 0, .int .u8 0]
    simpa using this
  have hbW : Below w.heap.size w ((w.alloc (Obj.cells leaf.cells 29)).alloc (Obj.cells #[.int .u8 0, .int .u8 0, .int .u8 0, .int .u8 0, .int .u8 0, .int .u8 0, .int .u8 0, .int .u8 0] 29)) := ((Below.refl _ _).alloc (Nat.le_refl _) _).alloc (by simp) _
  generalize ((w.alloc (Obj.cells leaf.cells 29)).alloc (Obj.cells #[.int .u8 0, .int .u8 0, .int .u8 0, .int .u8 0, .int .u8 0, .int .u8 0, .int .u8 0, .int .u8 0] 29)) = W at *
  have x0 : W.cell? ⟨w.heap.size, 0, none⟩ = some (B leaf.b0) := hX.cell 0
  have x1 : W.cell? ⟨w.heap.size, 1, none⟩ = some (B leaf.b1) := hX.cell 1
  have x2 : W.cell? ⟨w.heap.size, 2, none⟩ = some (B leaf.b2) := hX.cell 2
  have x3 : W.cell? ⟨w.heap.size, 3, none⟩ = some (B leaf.b3) := hX.cell 3
  have x4 : W.cell? ⟨w.heap.size, 4, none⟩ = some (B leaf.b4) := hX.cell 4
  have x5 : W.cell? ⟨w.heap.size, 5, none⟩ = some (B leaf.b5) := hX.cell 5
  have x6 : W.cell? ⟨w.heap.size, 6, none⟩ = some (B leaf.b6) := hX.cell 6
  have x7 : W.cell? ⟨w.heap.size, 7, none⟩ = some (B leaf.b7) := hX.cell 7
  have y0 : W.cell? ⟨b, o + d * 8, none⟩ = some (B up.b0) := (hbW.cell (p := ⟨b, o + d * 8, none⟩) hb).trans (Hup.out 0 _ rfl)
  have y1 : W.cell? ⟨b, o + d * 8 + 1, none⟩ = some (B up.b1) := (hbW.cell (p := ⟨b, o + d * 8 + 1, none⟩) hb).trans (Hup.out 1 _ rfl)
  have y2 : W.cell? ⟨b, o + d * 8 + 2, none⟩ = some (B up.b2) := (hbW.cell (p := ⟨b, o + d * 8 + 2, none⟩) hb).trans (Hup.out 2 _ rfl)
  have y3 : W.cell? ⟨b, o + d * 8 + 3, none⟩ = some (B up.b3) := (hbW.cell (p := ⟨b, o + d * 8 + 3, none⟩) hb).trans (Hup.out 3 _ rfl)
  have y4 : W.cell? ⟨b, o + d * 8 + 4, none⟩ = some (B up.b4) := (hbW.cell (p := ⟨b, o + d * 8 + 4, none⟩) hb).trans (Hup.out 4 _ rfl)
  have y5 : W.cell? ⟨b, o + d * 8 + 5, none⟩ = some (B up.b5) := (hbW.cell (p := ⟨b, o + d * 8 + 5, none⟩) hb).trans (Hup.out 5 _ rfl)
  have y6 : W.cell? ⟨b, o + d * 8 + 6, none⟩ = some (B up.b6) := (hbW.cell (p := ⟨b, o + d * 8 + 6, none⟩) hb).trans (Hup.out 6 _ rfl)
  have y7 : W.cell? ⟨b, o + d * 8 + 7, none⟩ = some (B up.b7) := (hbW.cell (p := ⟨b, o + d * 8 + 7, none⟩) hb).trans (Hup.out 7 _ rfl)
  have hlt0 := hX.lt
  have hlt := hR.lt
  have hltb : b < W.heap.size := Nat.lt_of_lt_of_le hb hbW.size
  have i1 : (0 : Int) ≤ (d : Int) := by omega
  have i2 : (d : Int) < (d : Int) + 1 := by omega
  have i3 : (d : Int) ≤ (c : Int) := by omega
  have n1 : ¬ w.heap.size + 1 = b := by omega
  have n2 : ¬ b = w.heap.size + 1 := by omega
  have HH1 : Hid (Calls Tryz.prog 164 #[leaf.val, .int .i64 ((i - k : Nat) : Int), .int .i64 (k : Int), .slice (some ⟨b, o, none⟩) d c] W.drew fun e w' => e = .returned r1.val ∧ Below W.heap.size W w' ∧ (w'.cell? ⟨w.heap.size, 0, none⟩ = some (B leaf.b0) ∧ w'.cell? ⟨w.heap.size, 1, none⟩ = some (B leaf.b1) ∧ w'.cell? ⟨w.heap.size, 2, none⟩ = some (B leaf.b2) ∧ w'.cell? ⟨w.heap.size, 3, none⟩ = some (B leaf.b3) ∧ w'.cell? ⟨w.heap.size, 4, none⟩ = some (B leaf.b4) ∧ w'.cell? ⟨w.heap.size, 5, none⟩ = some (B leaf.b5) ∧ w'.cell? ⟨w.heap.size, 6, none⟩ = some (B leaf.b6) ∧ w'.cell? ⟨w.heap.size, 7, none⟩ = some (B leaf.b7) ∧ w'.cell? ⟨b, o + d * 8, none⟩ = some (B up.b0) ∧ w'.cell? ⟨b, o + d * 8 + 1, none⟩ = some (B up.b1) ∧ w'.cell? ⟨b, o + d * 8 + 2, none⟩ = some (B up.b2) ∧ w'.cell? ⟨b, o + d * 8 + 3, none⟩ = some (B up.b3) ∧ w'.cell? ⟨b, o + d * 8 + 4, none⟩ = some (B up.b4) ∧ w'.cell? ⟨b, o + d * 8 + 5, none⟩ = some (B up.b5) ∧ w'.cell? ⟨b, o + d * 8 + 6, none⟩ = some (B up.b6) ∧ w'.cell? ⟨b, o + d * 8 + 7, none⟩ = some (B up.b7))) := by
    refine (H1.out _ hbW.drew).mono ?_
    rintro en w1 ⟨rfl, hb1⟩
    have hb2 : Below W.heap.size W w1 := (Below.refl _ _).drew.trans hb1
    exact ⟨rfl, hb2, (hb2.cell (p := ⟨w.heap.size, 0, none⟩) hlt0).trans x0, (hb2.cell (p := ⟨w.heap.size, 1, none⟩) hlt0).trans x1, (hb2.cell (p := ⟨w.heap.size, 2, none⟩) hlt0).trans x2, (hb2.cell (p := ⟨w.heap.size, 3, none⟩) hlt0).trans x3, (hb2.cell (p := ⟨w.heap.size, 4, none⟩) hlt0).trans x4, (hb2.cell (p := ⟨w.heap.size, 5, none⟩) hlt0).trans x5, (hb2.cell (p := ⟨w.heap.size, 6, none⟩) hlt0).trans x6, (hb2.cell (p := ⟨w.heap.size, 7, none⟩) hlt0).trans x7, (hb2.cell (p := ⟨b, o + d * 8, none⟩) hltb).trans y0, (hb2.cell (p := ⟨b, o + d * 8 + 1, none⟩) hltb).trans y1, (hb2.cell (p := ⟨b, o + d * 8 + 2, none⟩) hltb).trans y2, (hb2.cell (p := ⟨b, o + d * 8 + 3, none⟩) hltb).trans y3, (hb2.cell (p := ⟨b, o + d * 8 + 4, none⟩) hltb).trans y4, (hb2.cell (p := ⟨b, o + d * 8 + 5, none⟩) hltb).trans y5, (hb2.cell (p := ⟨b, o + d * 8 + 6, none⟩) hltb).trans y6, (hb2.cell (p := ⟨b, o + d * 8 + 7, none⟩) hltb).trans y7⟩
  have HH2 : Hid (∀ w1, Below W.heap.size W w1 → Calls Tryz.prog 191 #[.int .u8 18, up.val, r1.val] w1 fun e w' => e = .returned r.val ∧ Below W.heap.size W w' ∧ (w'.cell? ⟨w.heap.size, 0, none⟩ = some (B leaf.b0) ∧ w'.cell? ⟨w.heap.size, 1, none⟩ = some (B leaf.b1) ∧ w'.cell? ⟨w.heap.size, 2, none⟩ = some (B leaf.b2) ∧ w'.cell? ⟨w.heap.size, 3, none⟩ = some (B leaf.b3) ∧ w'.cell? ⟨w.heap.size, 4, none⟩ = some (B leaf.b4) ∧ w'.cell? ⟨w.heap.size, 5, none⟩ = some (B leaf.b5) ∧ w'.cell? ⟨w.heap.size, 6, none⟩ = some (B leaf.b6) ∧ w'.cell? ⟨w.heap.size, 7, none⟩ = some (B leaf.b7) ∧ w'.cell? ⟨b, o + d * 8, none⟩ = some (B up.b0) ∧ w'.cell? ⟨b, o + d * 8 + 1, none⟩ = some (B up.b1) ∧ w'.cell? ⟨b, o + d * 8 + 2, none⟩ = some (B up.b2) ∧ w'.cell? ⟨b, o + d * 8 + 3, none⟩ = some (B up.b3) ∧ w'.cell? ⟨b, o + d * 8 + 4, none⟩ = some (B up.b4) ∧ w'.cell? ⟨b, o + d * 8 + 5, none⟩ = some (B up.b5) ∧ w'.cell? ⟨b, o + d * 8 + 6, none⟩ = some (B up.b6) ∧ w'.cell? ⟨b, o + d * 8 + 7, none⟩ = some (B up.b7)) ∧ (w'.cell? ⟨w.heap.size + 1, 0, none⟩ = some (.int .u8 0) ∧ w'.frozen? ⟨w.heap.size + 1, 0, none⟩ = false ∧ w'.cell? ⟨w.heap.size + 1, 1, none⟩ = some (.int .u8 0) ∧ w'.frozen? ⟨w.heap.size + 1, 1, none⟩ = false ∧ w'.cell? ⟨w.heap.size + 1, 2, none⟩ = some (.int .u8 0) ∧ w'.frozen? ⟨w.heap.size + 1, 2, none⟩ = false ∧ w'.cell? ⟨w.heap.size + 1, 3, none⟩ = some (.int .u8 0) ∧ w'.frozen? ⟨w.heap.size + 1, 3, none⟩ = false ∧ w'.cell? ⟨w.heap.size + 1, 4, none⟩ = some (.int .u8 0) ∧ w'.frozen? ⟨w.heap.size + 1, 4, none⟩ = false ∧ w'.cell? ⟨w.heap.size + 1, 5, none⟩ = some (.int .u8 0) ∧ w'.frozen? ⟨w.heap.size + 1, 5, none⟩ = false ∧ w'.cell? ⟨w.heap.size + 1, 6, none⟩ = some (.int .u8 0) ∧ w'.frozen? ⟨w.heap.size + 1, 6, none⟩ = false ∧ w'.cell? ⟨w.heap.size + 1, 7, none⟩ = some (.int .u8 0) ∧ w'.frozen? ⟨w.heap.size + 1, 7, none⟩ = false)) := by
    intro w1 hbx
    refine (pair_core 18 up r1 r _ HS.out).mono ?_
    rintro en w2 ⟨rfl, hb1⟩
    have hb2 : Below W.heap.size W w2 := hbx.trans (hb1.mono hbx.size)
    have hR2 := hR.below hb2 hR.lt
    exact ⟨rfl, hb2, ⟨(hb2.cell (p := ⟨w.heap.size, 0, none⟩) hlt0).trans x0, (hb2.cell (p := ⟨w.heap.size, 1, none⟩) hlt0).trans x1, (hb2.cell (p := ⟨w.heap.size, 2, none⟩) hlt0).trans x2, (hb2.cell (p := ⟨w.heap.size, 3, none⟩) hlt0).trans x3, (hb2.cell (p := ⟨w.heap.size, 4, none⟩) hlt0).trans x4, (hb2.cell (p := ⟨w.heap.size, 5, none⟩) hlt0).trans x5, (hb2.cell (p := ⟨w.heap.size, 6, none⟩) hlt0).trans x6, (hb2.cell (p := ⟨w.heap.size, 7, none⟩) hlt0).trans x7, (hb2.cell (p := ⟨b, o + d * 8, none⟩) hltb).trans y0, (hb2.cell (p := ⟨b, o + d * 8 + 1, none⟩) hltb).trans y1, (hb2.cell (p := ⟨b, o + d * 8 + 2, none⟩) hltb).trans y2, (hb2.cell (p := ⟨b, o + d * 8 + 3, none⟩) hltb).trans y3, (hb2.cell (p := ⟨b, o + d * 8 + 4, none⟩) hltb).trans y4, (hb2.cell (p := ⟨b, o + d * 8 + 5, none⟩) hltb).trans y5, (hb2.cell (p := ⟨b, o + d * 8 + 6, none⟩) hltb).trans y6, (hb2.cell (p := ⟨b, o + d * 8 + 7, none⟩) hltb).trans y7⟩, hR2.cell 0, hR2.frozen 0, hR2.cell 1, hR2.frozen 1, hR2.cell 2, hR2.frozen 2, hR2.cell 3, hR2.frozen 3, hR2.cell 4, hR2.frozen 4, hR2.cell 5, hR2.frozen 5, hR2.cell 6, hR2.frozen 6, hR2.cell 7, hR2.frozen 7⟩
  go_region_held3 (fun w' => w'.cell? ⟨w.heap.size, 0, none⟩ = some (B leaf.b0) ∧ w'.cell? ⟨w.heap.size, 1, none⟩ = some (B leaf.b1) ∧ w'.cell? ⟨w.heap.size, 2, none⟩ = some (B leaf.b2) ∧ w'.cell? ⟨w.heap.size, 3, none⟩ = some (B leaf.b3) ∧ w'.cell? ⟨w.heap.size, 4, none⟩ = some (B leaf.b4) ∧ w'.cell? ⟨w.heap.size, 5, none⟩ = some (B leaf.b5) ∧ w'.cell? ⟨w.heap.size, 6, none⟩ = some (B leaf.b6) ∧ w'.cell? ⟨w.heap.size, 7, none⟩ = some (B leaf.b7) ∧ w'.cell? ⟨b, o + d * 8, none⟩ = some (B up.b0) ∧ w'.cell? ⟨b, o + d * 8 + 1, none⟩ = some (B up.b1) ∧ w'.cell? ⟨b, o + d * 8 + 2, none⟩ = some (B up.b2) ∧ w'.cell? ⟨b, o + d * 8 + 3, none⟩ = some (B up.b3) ∧ w'.cell? ⟨b, o + d * 8 + 4, none⟩ = some (B up.b4) ∧ w'.cell? ⟨b, o + d * 8 + 5, none⟩ = some (B up.b5) ∧ w'.cell? ⟨b, o + d * 8 + 6, none⟩ = some (B up.b6) ∧ w'.cell? ⟨b, o + d * 8 + 7, none⟩ = some (B up.b7)) (go_keep)
    ((first
      | (go_at_call 164; refine HH1.out.mono ?_; rintro en w1 ⟨rfl, hb1, p0, p1, p2, p3, p4, p5, p6, p7, p8, p9, p10, p11, p12, p13, p14, p15⟩)
      | (go_at_call 191; refine (HH2.out _ hb1).mono ?_; rintro en w2 ⟨rfl, hb2, ⟨q0, q1, q2, q3, q4, q5, q6, q7, q8, q9, q10, q11, q12, q13, q14, q15⟩, z0, f0, z1, f1, z2, f2, z3, f3, z4, f4, z5, f5, z6, f6, z7, f7⟩)))
  all_goals
    have hbW2 : Below w.heap.size w w2 := hbW.trans (hb2.mono hbW.size)
    have hR6 := (((((((((hR.below hb2 hR.lt).put 0 (B r.b0)).put 1 (B r.b1)).put 2 (B r.b2)).put 3 (B r.b3)).put 4 (B r.b4)).put 5 (B r.b5)).put 6 (B r.b6)).put 7 (B r.b7))
    have hbw6 := ((((((((hbW2.setCell (p := ⟨w.heap.size + 1, 0, none⟩) (by simp) (B r.b0)).setCell (p := ⟨w.heap.size + 1, 1, none⟩) (by simp) (B r.b1)).setCell (p := ⟨w.heap.size + 1, 2, none⟩) (by simp) (B r.b2)).setCell (p := ⟨w.heap.size + 1, 3, none⟩) (by simp) (B r.b3)).setCell (p := ⟨w.heap.size + 1, 4, none⟩) (by simp) (B r.b4)).setCell (p := ⟨w.heap.size + 1, 5, none⟩) (by simp) (B r.b5)).setCell (p := ⟨w.heap.size + 1, 6, none⟩) (by simp) (B r.b6)).setCell (p := ⟨w.heap.size + 1, 7, none⟩) (by simp) (B r.b7))
    clear p0 p1 p2 p3 p4 p5 p6 p7 p8 p9 p10 p11 p12 p13 p14 p15 q0 q1 q2 q3 q4 q5 q6 q7 q8 q9 q10 q11 q12 q13 q14 q15 z0 z1 z2 z3 z4 z5 z6 z7 f0 f1 f2 f3 f4 f5 f6 f7 x0 x1 x2 x3 x4 x5 x6 x7 y0 y1 y2 y3 y4 y5 y6 y7 HH1 HH2 hR hX
    go_wp2
    exact bodyPost_ret (results_cell_row (g := w.heap.size + 1) (cs := r.cells) rfl _ _ _ _ _ rfl hR6 Tryz.underlying29 rfl size_name) rfl ⟨rfl, hbw6⟩
end Go.Proofs.YthmecidpjlaonaaGreat
namespace Go.Proofs.YthmecidpjlaonaaGreat
open Go.RowKit

/-- The names of a path lie in the block b from the offset o on. -/
def PathAt (w : World) (b o : Nat) (l : List Nm) : Prop := ∀ t nm, l[t]? = some nm → ∀ j u, (nmc nm)[j]? = some u → w.cell? ⟨b, o + t * 8 + j, none⟩ = some u
theorem PathAt.below {w W : World} {b o : Nat} {l : List Nm} (h : PathAt w b o l) (hb : b < w.heap.size) (hw : Below w.heap.size w W) : PathAt W b o l :=
  fun t nm ht j u hu => (hw.cell (p := ⟨b, o + t * 8 + j, none⟩) hb).trans (h t nm ht j u hu)

theorem computed_any (leaf : Nm) (c b o : Nat) (path : List Nm) : ∀ (d i n : Nat) (w : World), n = 2 ^ d → d ≤ 40 → d ≤ path.length → d ≤ c → i < n → b < w.heap.size → PathAt w b o path →
    Calls Tryz.prog 164 #[leaf.val, .int .i64 (i : Int), .int .i64 (n : Int), .slice (some ⟨b, o, none⟩) d c] w (NmPost w (followF leaf d i path))
  | 0, i, n, w, hn, _, _, _, _, _, _ => by
    obtain rfl : n = 1 := hn
    exact computed_zero i leaf _ _ c w rfl
  | d + 1, i, n, w, hn, hd, hl, hc, hi, hb, hp => by
    have hx : path[d]? = some (path.getD d Nm.zero) := by
      rw [List.getD_eq_getElem?_getD, List.getElem?_eq_getElem (by omega)]; rfl
    have h2 : n = 2 * 2 ^ d := by rw [hn, Nat.pow_succ]; omega
    by_cases h : i < 2 ^ d
    · rw [followF, if_pos h]
      exact computed_lt d i n (2 ^ d) c b o leaf (followF leaf d i path) (path.getD d Nm.zero) _ w rfl hn (by omega) h hc hb (hp d _ hx)
        (fun W hW => computed_any leaf c b o path d i (2 ^ d) W rfl (by omega) (by omega) (by omega) h (Nat.lt_of_lt_of_le hb hW.size) (hp.below hb hW)) rfl
    · rw [followF, if_neg h]
      exact computed_ge d i n (2 ^ d) c b o leaf (followF leaf d (i - 2 ^ d) path) (path.getD d Nm.zero) _ w rfl hn (by omega) (by omega) hi hc hb (hp d _ hx)
        (fun W hW => computed_any leaf c b o path d (i - 2 ^ d) (2 ^ d) W rfl (by omega) (by omega) (by omega) (by omega) (Nat.lt_of_lt_of_le hb hW.size) (hp.below hb hW)) rfl
end Go.Proofs.YthmecidpjlaonaaGreat
