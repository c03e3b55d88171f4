/-
  The reference's follow, the step to the left: from the contract at half the names to the contract at all of them. Condition: as for merkle.computed.
  The reference's follow, the step to the right: from the contract at half the names to the contract at all of them. Condition: as for merkle.computed.
  The reference's follow, by induction on the depth: the root that follows from a leaf and a path. Condition: the number of names is a power of two and the path lies in memory below the call.
-/
import Derived.Test.YthmecidpjlaonaaGreatGComp
namespace Go.Proofs.YthmecidpjlaonaaGreat
open Go.RowKit
attribute [local go_sem ↓] Go.wp_at_zero Go.wp_at_succ

set_option maxRecDepth 100000 in
set_option maxHeartbeats 2000000 in
theorem follow_lt (d i n k c b o : Nat) (leaf r1 up r : Nm) (w : World) (hk : k = 2 ^ d) (hn : n = 2 ^ (d + 1)) (hd : d ≤ 40) (hik : i < k) (hc : d + 1 ≤ c) (hb : b < w.heap.size)
    (hup : ∀ j u, (nmc up)[j]? = some u → w.cell? ⟨b, o + d * 8 + j, none⟩ = some u)
    (h1 : ∀ W, Below w.heap.size w W → Calls Tryz.prog 137 #[leaf.val, .int .i64 (i : Int), .int .i64 (k : Int), .slice (some ⟨b, o, none⟩) d c] W (NmPost W r1)) (hr : sumF (18 :: (r1.bytes ++ up.bytes)) = r) :
    Calls Tryz.prog 137 #[leaf.val, .int .i64 (i : Int), .int .i64 (n : Int), .slice (some ⟨b, o, none⟩) (d + 1) c] w (NmPost w r) := by
  have HS := Lib.hid hr; clear hr
  have H1 := Lib.hid h1; clear h1
  have Hup := Lib.hid hup; clear hup
  have hk1 : 1 ≤ k := by rw [hk]; exact Nat.one_le_two_pow
  have hkb : k ≤ 1099511627776 := by rw [hk]; exact Nat.pow_le_pow_right (j := 40) (by omega) hd
  have h2 : n = 2 * k := by rw [hn, hk, Nat.pow_succ]; omega
  have hcall : ∀ W, Calls Tryz.prog 87 #[.int .i64 (n : Int)] W fun en w' => en = .returned (.int .i64 (k : Int)) ∧ w' = W := fun W => by
    rw [hk]; exact rsplit_pow d n W hn hd
  have HC := Lib.hid hcall; clear hcall
  have hne : ((n : Int) == 1) = false := by rw [beq_eq_false_iff_ne]; omega
  have h3 : n ≤ 2 * k := by omega
  have h4 : 2 * k ≤ n := by omega
  clear h2 hk hn
  go_enter Tryz.func137, Tryz.ntmps137
  go_wp2
  have hX : Blk ((w.alloc (Obj.cells leaf.cells 29)).alloc (Obj.cells #[.int .u8 0, .int .u8 0, .int .u8 0, .int .u8 0, .int .u8 0, .int .u8 0, .int .u8 0, .int .u8 0] 29)) w.heap.size 29 leaf.cells := (Blk.new w _ _).alloc _
  have hR : Blk ((w.alloc (Obj.cells leaf.cells 29)).alloc (Obj.cells #[.int .u8 0, .int .u8 0, .int .u8 0, .int .u8 0, .int .u8 0, .int .u8 0, .int .u8 0, .int .u8 0] 29)) (w.heap.size + 1) 29 #[.int .u8 0, .int .u8 0, .int .u8 0, .int .u8 0, .int .u8 0, .int .u8 0, .int .u8 0, .int .u8 0] := by
    have := Blk.new (w.alloc (Obj.cells leaf.cells 29)) 29 #[.int .u8 0, .int .u8 0, .int .u8 0, .int .u8 0, .int .u8 0, .int .u8 0, .int .u8 0, .int .u8 0]
    simpa using this
  have hbW : Below w.heap.size w ((w.alloc (Obj.cells leaf.cells 29)).alloc (Obj.cells #[.int .u8 0, .int .u8 0, .int .u8 0, .int .u8 0, .int .u8 0, .int .u8 0, .int .u8 0, .int .u8 0] 29)) := ((Below.refl _ _).alloc (Nat.le_refl _) _).alloc (by simp) _
  generalize ((w.alloc (Obj.cells leaf.cells 29)).alloc (Obj.cells #[.int .u8 0, .int .u8 0, .int .u8 0, .int .u8 0, .int .u8 0, .int .u8 0, .int .u8 0, .int .u8 0] 29)) = W at *
  have y0 : W.cell? ⟨b, o + d * 8, none⟩ = some (B up.b0) := (hbW.cell (p := ⟨b, o + d * 8, none⟩) hb).trans (Hup.out 0 _ rfl)
  have y1 : W.cell? ⟨b, o + d * 8 + 1, none⟩ = some (B up.b1) := (hbW.cell (p := ⟨b, o + d * 8 + 1, none⟩) hb).trans (Hup.out 1 _ rfl)
  have y2 : W.cell? ⟨b, o + d * 8 + 2, none⟩ = some (B up.b2) := (hbW.cell (p := ⟨b, o + d * 8 + 2, none⟩) hb).trans (Hup.out 2 _ rfl)
  have y3 : W.cell? ⟨b, o + d * 8 + 3, none⟩ = some (B up.b3) := (hbW.cell (p := ⟨b, o + d * 8 + 3, none⟩) hb).trans (Hup.out 3 _ rfl)
  have y4 : W.cell? ⟨b, o + d * 8 + 4, none⟩ = some (B up.b4) := (hbW.cell (p := ⟨b, o + d * 8 + 4, none⟩) hb).trans (Hup.out 4 _ rfl)
  have y5 : W.cell? ⟨b, o + d * 8 + 5, none⟩ = some (B up.b5) := (hbW.cell (p := ⟨b, o + d * 8 + 5, none⟩) hb).trans (Hup.out 5 _ rfl)
  have y6 : W.cell? ⟨b, o + d * 8 + 6, none⟩ = some (B up.b6) := (hbW.cell (p := ⟨b, o + d * 8 + 6, none⟩) hb).trans (Hup.out 6 _ rfl)
  have y7 : W.cell? ⟨b, o + d * 8 + 7, none⟩ = some (B up.b7) := (hbW.cell (p := ⟨b, o + d * 8 + 7, none⟩) hb).trans (Hup.out 7 _ rfl)
  have hlt0 := hX.lt
  have hlt := hR.lt
  have hltb : b < W.heap.size := Nat.lt_of_lt_of_le hb hbW.size
  have i1 : (0 : Int) ≤ (d : Int) := by omega
  have i2 : (d : Int) < (d : Int) + 1 := by omega
  have i3 : (d : Int) ≤ (c : Int) := by omega
  have i4 : IntKind.i64.wrap (d : Int) = (d : Int) := by rw [IntKind.wrap_i64]; omega
  have i5 : IntKind.i64.wrap ((d : Int) + 1 - 1) = (d : Int) := by rw [IntKind.wrap_i64]; omega
  have i6 : (d : Int) + 1 - 1 = (d : Int) := by omega
  have i7 : (d : Int) ≤ 40 := by omega
  have n1 : ¬ W.heap.size = b := by omega
  have n2 : ¬ b = W.heap.size := by omega
  go_region_held3 (fun w' => w'.cell? ⟨b, o + d * 8, none⟩ = some (B up.b0) ∧ w'.cell? ⟨b, o + d * 8 + 1, none⟩ = some (B up.b1) ∧ w'.cell? ⟨b, o + d * 8 + 2, none⟩ = some (B up.b2) ∧ w'.cell? ⟨b, o + d * 8 + 3, none⟩ = some (B up.b3) ∧ w'.cell? ⟨b, o + d * 8 + 4, none⟩ = some (B up.b4) ∧ w'.cell? ⟨b, o + d * 8 + 5, none⟩ = some (B up.b5) ∧ w'.cell? ⟨b, o + d * 8 + 6, none⟩ = some (B up.b6) ∧ w'.cell? ⟨b, o + d * 8 + 7, none⟩ = some (B up.b7)) (go_keep)
    ((go_at_call 87; refine (HC.out _).mono ?_; rintro en w' ⟨rfl, rfl⟩))
  all_goals
    have hX1 : Blk ((W.alloc (Obj.cells up.cells 29)).drew) w.heap.size 29 leaf.cells := (hX.alloc _).drew
    have hR1 : Blk ((W.alloc (Obj.cells up.cells 29)).drew) (w.heap.size + 1) 29 #[.int .u8 0, .int .u8 0, .int .u8 0, .int .u8 0, .int .u8 0, .int .u8 0, .int .u8 0, .int .u8 0] := (hR.alloc _).drew
    have hU1 : Blk ((W.alloc (Obj.cells up.cells 29)).drew) W.heap.size 29 up.cells := (Blk.new W _ _).drew
    have hb0 : Below w.heap.size w ((W.alloc (Obj.cells up.cells 29)).drew) := (hbW.alloc hbW.size _).drew
    have hge : w.heap.size + 1 < W.heap.size := hR.lt
    clear y0 y1 y2 y3 y4 y5 y6 y7 hX hR hbW hlt0 hlt hltb n1 n2
    generalize ((W.alloc (Obj.cells up.cells 29)).drew) = W1 at *
    generalize W.heap.size = g at *
    have hlt1 := hX1.lt
    have hltg := hU1.lt
    have x0 : W1.cell? ⟨w.heap.size, 0, none⟩ = some (B leaf.b0) := hX1.cell 0
    have x1 : W1.cell? ⟨w.heap.size, 1, none⟩ = some (B leaf.b1) := hX1.cell 1
    have x2 : W1.cell? ⟨w.heap.size, 2, none⟩ = some (B leaf.b2) := hX1.cell 2
    have x3 : W1.cell? ⟨w.heap.size, 3, none⟩ = some (B leaf.b3) := hX1.cell 3
    have x4 : W1.cell? ⟨w.heap.size, 4, none⟩ = some (B leaf.b4) := hX1.cell 4
    have x5 : W1.cell? ⟨w.heap.size, 5, none⟩ = some (B leaf.b5) := hX1.cell 5
    have x6 : W1.cell? ⟨w.heap.size, 6, none⟩ = some (B leaf.b6) := hX1.cell 6
    have x7 : W1.cell? ⟨w.heap.size, 7, none⟩ = some (B leaf.b7) := hX1.cell 7
    have u0 : W1.cell? ⟨g, 0, none⟩ = some (B up.b0) := hU1.cell 0
    have u1 : W1.cell? ⟨g, 1, none⟩ = some (B up.b1) := hU1.cell 1
    have u2 : W1.cell? ⟨g, 2, none⟩ = some (B up.b2) := hU1.cell 2
    have u3 : W1.cell? ⟨g, 3, none⟩ = some (B up.b3) := hU1.cell 3
    have u4 : W1.cell? ⟨g, 4, none⟩ = some (B up.b4) := hU1.cell 4
    have u5 : W1.cell? ⟨g, 5, none⟩ = some (B up.b5) := hU1.cell 5
    have u6 : W1.cell? ⟨g, 6, none⟩ = some (B up.b6) := hU1.cell 6
    have u7 : W1.cell? ⟨g, 7, none⟩ = some (B up.b7) := hU1.cell 7
    have n1 : ¬ w.heap.size + 1 = g := by omega
    have n2 : ¬ g = w.heap.size + 1 := by omega
    go_wp2
    have HH1 : Hid (Calls Tryz.prog 137 #[leaf.val, .int .i64 (i : Int), .int .i64 (k : Int), .slice (some ⟨b, o, none⟩) d c] W1.drew fun e w' => e = .returned r1.val ∧ Below W1.heap.size W1 w' ∧ (w'.cell? ⟨w.heap.size, 0, none⟩ = some (B leaf.b0) ∧ w'.cell? ⟨w.heap.size, 1, none⟩ = some (B leaf.b1) ∧ w'.cell? ⟨w.heap.size, 2, none⟩ = some (B leaf.b2) ∧ w'.cell? ⟨w.heap.size, 3, none⟩ = some (B leaf.b3) ∧ w'.cell? ⟨w.heap.size, 4, none⟩ = some (B leaf.b4) ∧ w'.cell? ⟨w.heap.size, 5, none⟩ = some (B leaf.b5) ∧ w'.cell? ⟨w.heap.size, 6, none⟩ = some (B leaf.b6) ∧ w'.cell? ⟨w.heap.size, 7, none⟩ = some (B leaf.b7) ∧ w'.cell? ⟨g, 0, none⟩ = some (B up.b0) ∧ w'.cell? ⟨g, 1, none⟩ = some (B up.b1) ∧ w'.cell? ⟨g, 2, none⟩ = some (B up.b2) ∧ w'.cell? ⟨g, 3, none⟩ = some (B up.b3) ∧ w'.cell? ⟨g, 4, none⟩ = some (B up.b4) ∧ w'.cell? ⟨g, 5, none⟩ = some (B up.b5) ∧ w'.cell? ⟨g, 6, none⟩ = some (B up.b6) ∧ w'.cell? ⟨g, 7, none⟩ = some (B up.b7))) := by
      refine (H1.out _ hb0.drew).mono ?_
      rintro en w1 ⟨rfl, hb1⟩
      have hb2 : Below W1.heap.size W1 w1 := (Below.refl _ _).drew.trans hb1
      exact ⟨rfl, hb2, (hb2.cell (p := ⟨w.heap.size, 0, none⟩) hlt1).trans x0, (hb2.cell (p := ⟨w.heap.size, 1, none⟩) hlt1).trans x1, (hb2.cell (p := ⟨w.heap.size, 2, none⟩) hlt1).trans x2, (hb2.cell (p := ⟨w.heap.size, 3, none⟩) hlt1).trans x3, (hb2.cell (p := ⟨w.heap.size, 4, none⟩) hlt1).trans x4, (hb2.cell (p := ⟨w.heap.size, 5, none⟩) hlt1).trans x5, (hb2.cell (p := ⟨w.heap.size, 6, none⟩) hlt1).trans x6, (hb2.cell (p := ⟨w.heap.size, 7, none⟩) hlt1).trans x7, (hb2.cell (p := ⟨g, 0, none⟩) hltg).trans u0, (hb2.cell (p := ⟨g, 1, none⟩) hltg).trans u1, (hb2.cell (p := ⟨g, 2, none⟩) hltg).trans u2, (hb2.cell (p := ⟨g, 3, none⟩) hltg).trans u3, (hb2.cell (p := ⟨g, 4, none⟩) hltg).trans u4, (hb2.cell (p := ⟨g, 5, none⟩) hltg).trans u5, (hb2.cell (p := ⟨g, 6, none⟩) hltg).trans u6, (hb2.cell (p := ⟨g, 7, none⟩) hltg).trans u7⟩
    have HH2 : Hid (∀ w1, Below W1.heap.size W1 w1 → Calls Tryz.prog 88 #[.int .u8 18, r1.val, up.val] w1 fun e w' => e = .returned r.val ∧ Below W1.heap.size W1 w' ∧ (w'.cell? ⟨w.heap.size, 0, none⟩ = some (B leaf.b0) ∧ w'.cell? ⟨w.heap.size, 1, none⟩ = some (B leaf.b1) ∧ w'.cell? ⟨w.heap.size, 2, none⟩ = some (B leaf.b2) ∧ w'.cell? ⟨w.heap.size, 3, none⟩ = some (B leaf.b3) ∧ w'.cell? ⟨w.heap.size, 4, none⟩ = some (B leaf.b4) ∧ w'.cell? ⟨w.heap.size, 5, none⟩ = some (B leaf.b5) ∧ w'.cell? ⟨w.heap.size, 6, none⟩ = some (B leaf.b6) ∧ w'.cell? ⟨w.heap.size, 7, none⟩ = some (B leaf.b7) ∧ w'.cell? ⟨g, 0, none⟩ = some (B up.b0) ∧ w'.cell? ⟨g, 1, none⟩ = some (B up.b1) ∧ w'.cell? ⟨g, 2, none⟩ = some (B up.b2) ∧ w'.cell? ⟨g, 3, none⟩ = some (B up.b3) ∧ w'.cell? ⟨g, 4, none⟩ = some (B up.b4) ∧ w'.cell? ⟨g, 5, none⟩ = some (B up.b5) ∧ w'.cell? ⟨g, 6, none⟩ = some (B up.b6) ∧ w'.cell? ⟨g, 7, none⟩ = some (B up.b7)) ∧ (w'.cell? ⟨w.heap.size + 1, 0, none⟩ = some (.int .u8 0) ∧ w'.frozen? ⟨w.heap.size + 1, 0, none⟩ = false ∧ w'.cell? ⟨w.heap.size + 1, 1, none⟩ = some (.int .u8 0) ∧ w'.frozen? ⟨w.heap.size + 1, 1, none⟩ = false ∧ w'.cell? ⟨w.heap.size + 1, 2, none⟩ = some (.int .u8 0) ∧ w'.frozen? ⟨w.heap.size + 1, 2, none⟩ = false ∧ w'.cell? ⟨w.heap.size + 1, 3, none⟩ = some (.int .u8 0) ∧ w'.frozen? ⟨w.heap.size + 1, 3, none⟩ = false ∧ w'.cell? ⟨w.heap.size + 1, 4, none⟩ = some (.int .u8 0) ∧ w'.frozen? ⟨w.heap.size + 1, 4, none⟩ = false ∧ w'.cell? ⟨w.heap.size + 1, 5, none⟩ = some (.int .u8 0) ∧ w'.frozen? ⟨w.heap.size + 1, 5, none⟩ = false ∧ w'.cell? ⟨w.heap.size + 1, 6, none⟩ = some (.int .u8 0) ∧ w'.frozen? ⟨w.heap.size + 1, 6, none⟩ = false ∧ w'.cell? ⟨w.heap.size + 1, 7, none⟩ = some (.int .u8 0) ∧ w'.frozen? ⟨w.heap.size + 1, 7, none⟩ = false)) := by
      intro w1 hbx
      refine (rpair_core 18 r1 up r _ HS.out).mono ?_
      rintro en w2 ⟨rfl, hb1⟩
      have hb2 : Below W1.heap.size W1 w2 := hbx.trans (hb1.mono hbx.size)
      have hR2 := hR1.below hb2 hR1.lt
      exact ⟨rfl, hb2, ⟨(hb2.cell (p := ⟨w.heap.size, 0, none⟩) hlt1).trans x0, (hb2.cell (p := ⟨w.heap.size, 1, none⟩) hlt1).trans x1, (hb2.cell (p := ⟨w.heap.size, 2, none⟩) hlt1).trans x2, (hb2.cell (p := ⟨w.heap.size, 3, none⟩) hlt1).trans x3, (hb2.cell (p := ⟨w.heap.size, 4, none⟩) hlt1).trans x4, (hb2.cell (p := ⟨w.heap.size, 5, none⟩) hlt1).trans x5, (hb2.cell (p := ⟨w.heap.size, 6, none⟩) hlt1).trans x6, (hb2.cell (p := ⟨w.heap.size, 7, none⟩) hlt1).trans x7, (hb2.cell (p := ⟨g, 0, none⟩) hltg).trans u0, (hb2.cell (p := ⟨g, 1, none⟩) hltg).trans u1, (hb2.cell (p := ⟨g, 2, none⟩) hltg).trans u2, (hb2.cell (p := ⟨g, 3, none⟩) hltg).trans u3, (hb2.cell (p := ⟨g, 4, none⟩) hltg).trans u4, (hb2.cell (p := ⟨g, 5, none⟩) hltg).trans u5, (hb2.cell (p := ⟨g, 6, none⟩) hltg).trans u6, (hb2.cell (p := ⟨g, 7, none⟩) hltg).trans u7⟩, hR2.cell 0, hR2.frozen 0, hR2.cell 1, hR2.frozen 1, hR2.cell 2, hR2.frozen 2, hR2.cell 3, hR2.frozen 3, hR2.cell 4, hR2.frozen 4, hR2.cell 5, hR2.frozen 5, hR2.cell 6, hR2.frozen 6, hR2.cell 7, hR2.frozen 7⟩
    go_region_held3 (fun w' => w'.cell? ⟨w.heap.size, 0, none⟩ = some (B leaf.b0) ∧ w'.cell? ⟨w.heap.size, 1, none⟩ = some (B leaf.b1) ∧ w'.cell? ⟨w.heap.size, 2, none⟩ = some (B leaf.b2) ∧ w'.cell? ⟨w.heap.size, 3, none⟩ = some (B leaf.b3) ∧ w'.cell? ⟨w.heap.size, 4, none⟩ = some (B leaf.b4) ∧ w'.cell? ⟨w.heap.size, 5, none⟩ = some (B leaf.b5) ∧ w'.cell? ⟨w.heap.size, 6, none⟩ = some (B leaf.b6) ∧ w'.cell? ⟨w.heap.size, 7, none⟩ = some (B leaf.b7) ∧ w'.cell? ⟨g, 0, none⟩ = some (B up.b0) ∧ w'.cell? ⟨g, 1, none⟩ = some (B up.b1) ∧ w'.cell? ⟨g, 2, none⟩ = some (B up.b2) ∧ w'.cell? ⟨g, 3, none⟩ = some (B up.b3) ∧ w'.cell? ⟨g, 4, none⟩ = some (B up.b4) ∧ w'.cell? ⟨g, 5, none⟩ = some (B up.b5) ∧ w'.cell? ⟨g, 6, none⟩ = some (B up.b6) ∧ w'.cell? ⟨g, 7, none⟩ = some (B up.b7)) (go_keep)
      ((first
        | (go_at_call 137; refine HH1.out.mono ?_; rintro en w1 ⟨rfl, hb1, p0, p1, p2, p3, p4, p5, p6, p7, p8, p9, p10, p11, p12, p13, p14, p15⟩)
        | (go_at_call 88; refine (HH2.out _ hb1).mono ?_; rintro en w2 ⟨rfl, hb2, ⟨q0, q1, q2, q3, q4, q5, q6, q7, q8, q9, q10, q11, q12, q13, q14, q15⟩, z0, f0, z1, f1, z2, f2, z3, f3, z4, f4, z5, f5, z6, f6, z7, f7⟩)))
    all_goals
      have hbW2 : Below w.heap.size w w2 := hb0.trans (hb2.mono hb0.size)
      have hR6 := (((((((((hR1.below hb2 hR1.lt).put 0 (B r.b0)).put 1 (B r.b1)).put 2 (B r.b2)).put 3 (B r.b3)).put 4 (B r.b4)).put 5 (B r.b5)).put 6 (B r.b6)).put 7 (B r.b7))
      have hbw6 := ((((((((hbW2.setCell (p := ⟨w.heap.size + 1, 0, none⟩) (by simp) (B r.b0)).setCell (p := ⟨w.heap.size + 1, 1, none⟩) (by simp) (B r.b1)).setCell (p := ⟨w.heap.size + 1, 2, none⟩) (by simp) (B r.b2)).setCell (p := ⟨w.heap.size + 1, 3, none⟩) (by simp) (B r.b3)).setCell (p := ⟨w.heap.size + 1, 4, none⟩) (by simp) (B r.b4)).setCell (p := ⟨w.heap.size + 1, 5, none⟩) (by simp) (B r.b5)).setCell (p := ⟨w.heap.size + 1, 6, none⟩) (by simp) (B r.b6)).setCell (p := ⟨w.heap.size + 1, 7, none⟩) (by simp) (B r.b7))
      clear p0 p1 p2 p3 p4 p5 p6 p7 p8 p9 p10 p11 p12 p13 p14 p15 q0 q1 q2 q3 q4 q5 q6 q7 q8 q9 q10 q11 q12 q13 q14 q15 z0 z1 z2 z3 z4 z5 z6 z7 f0 f1 f2 f3 f4 f5 f6 f7 x0 x1 x2 x3 x4 x5 x6 x7 u0 u1 u2 u3 u4 u5 u6 u7 HH1 HH2 hR1 hX1 hU1
      go_wp2
      exact bodyPost_ret (results_cell_row (g := w.heap.size + 1) (cs := r.cells) rfl _ _ _ _ _ rfl hR6 Tryz.underlying29 rfl size_name) rfl ⟨rfl, hbw6⟩
end Go.Proofs.YthmecidpjlaonaaGreat
namespace Go.Proofs.YthmecidpjlaonaaGreat
open Go.RowKit
attribute [local go_sem ↓] Go.wp_at_zero Go.wp_at_succ

set_option maxRecDepth 100000 in
set_option maxHeartbeats 2000000 in
theorem follow_ge (d i n k c b o : Nat) (leaf r1 up r : Nm) (w : World) (hk : k = 2 ^ d) (hn : n = 2 ^ (d + 1)) (hd : d ≤ 40) (hik : k ≤ i) (hin : i < n) (hc : d + 1 ≤ c) (hb : b < w.heap.size)
    (hup : ∀ j u, (nmc up)[j]? = some u → w.cell? ⟨b, o + d * 8 + j, none⟩ = some u)
    (h1 : ∀ W, Below w.heap.size w W → Calls Tryz.prog 137 #[leaf.val, .int .i64 ((i - k : Nat) : Int), .int .i64 (k : Int), .slice (some ⟨b, o, none⟩) d c] W (NmPost W r1)) (hr : sumF (18 :: (up.bytes ++ r1.bytes)) = r) :
    Calls Tryz.prog 137 #[leaf.val, .int .i64 (i : Int), .int .i64 (n : Int), .slice (some ⟨b, o, none⟩) (d + 1) c] w (NmPost w r) := by
  have HS := Lib.hid hr; clear hr
  have H1 := Lib.hid h1; clear h1
  have Hup := Lib.hid hup; clear hup
  have hk1 : 1 ≤ k := by rw [hk]; exact Nat.one_le_two_pow
  have hkb : k ≤ 1099511627776 := by rw [hk]; exact Nat.pow_le_pow_right (j := 40) (by omega) hd
  have h2 : n = 2 * k := by rw [hn, hk, Nat.pow_succ]; omega
  have hcall : ∀ W, Calls Tryz.prog 87 #[.int .i64 (n : Int)] W fun en w' => en = .returned (.int .i64 (k : Int)) ∧ w' = W := fun W => by
    rw [hk]; exact rsplit_pow d n W hn hd
  have HC := Lib.hid hcall; clear hcall
  have hne : ((n : Int) == 1) = false := by rw [beq_eq_false_iff_ne]; omega
  have h3 : n ≤ 2 * k := by omega
  have h4 : 2 * k ≤ n := by omega
  clear h2 hk hn
  have hnl : ¬ ((i : Int) < (k : Int)) := by omega
  have hw1 : IntKind.i64.wrap ((i : Int) - (k : Int)) = ((i - k : Nat) : Int) := by rw [IntKind.wrap_i64]; omega
  have hw2 : IntKind.i64.wrap ((n : Int) - (k : Int)) = (k : Int) := by rw [IntKind.wrap_i64]; omega
  go_enter Tryz.func137, Tryz.ntmps137
  go_wp2
  have hX : Blk ((w.alloc (Obj.cells leaf.cells 29)).alloc (Obj.cells #[.int .u8 0, .int .u8 0, .int .u8 0, .int .u8 0, .int .u8 0, .int .u8 0, .int .u8 0, .int .u8 0] 29)) w.heap.size 29 leaf.cells := (Blk.new w _ _).alloc _
  have hR : Blk ((w.alloc (Obj.cells leaf.cells 29)).alloc (Obj.cells #[.int .u8 0, .int .u8 0, .int .u8 0, .int .u8 0, .int .u8 0, .int .u8 0, .int .u8 0, .int .u8 0] 29)) (w.heap.size + 1) 29 #[.int .u8 0, .int .u8 0, .int .u8 0, .int .u8 0, .int .u8 0, .int .u8 0, .int .u8 0, .int .u8 0] := by
    have := Blk.new (w.alloc (Obj.cells leaf.cells 29)) 29 #[.int .u8 0, .int .u8 0, .int .u8 0, .int .u8 0, .int .u8 0, .int .u8 0, .int .u8 0, .int .u8 0]
    simpa using this
  have hbW : Below w.heap.size w ((w.alloc (Obj.cells leaf.cells 29)).alloc (Obj.cells #[.int .u8 0, .int .u8 0, .int .u8 0, .int .u8 0, .int .u8 0, .int .u8 0, .int .u8 0, .int .u8 0] 29)) := ((Below.refl _ _).alloc (Nat.le_refl _) _).alloc (by simp) _
  generalize ((w.alloc (Obj.cells leaf.cells 29)).alloc (Obj.cells #[.int .u8 0, .int .u8 0, .int .u8 0, .int .u8 0, .int .u8 0, .int .u8 0, .int .u8 0, .int .u8 0] 29)) = W at *
  have y0 : W.cell? ⟨b, o + d * 8, none⟩ = some (B up.b0) := (hbW.cell (p := ⟨b, o + d * 8, none⟩) hb).trans (Hup.out 0 _ rfl)
  have y1 : W.cell? ⟨b, o + d * 8 + 1, none⟩ = some (B up.b1) := (hbW.cell (p := ⟨b, o + d * 8 + 1, none⟩) hb).trans (Hup.out 1 _ rfl)
  have y2 : W.cell? ⟨b, o + d * 8 + 2, none⟩ = some (B up.b2) := (hbW.cell (p := ⟨b, o + d * 8 + 2, none⟩) hb).trans (Hup.out 2 _ rfl)
  have y3 : W.cell? ⟨b, o + d * 8 + 3, none⟩ = some (B up.b3) := (hbW.cell (p := ⟨b, o + d * 8 + 3, none⟩) hb).trans (Hup.out 3 _ rfl)
  have y4 : W.cell? ⟨b, o + d * 8 + 4, none⟩ = some (B up.b4) := (hbW.cell (p := ⟨b, o + d * 8 + 4, none⟩) hb).trans (Hup.out 4 _ rfl)
  have y5 : W.cell? ⟨b, o + d * 8 + 5, none⟩ = some (B up.b5) := (hbW.cell (p := ⟨b, o + d * 8 + 5, none⟩) hb).trans (Hup.out 5 _ rfl)
  have y6 : W.cell? ⟨b, o + d * 8 + 6, none⟩ = some (B up.b6) := (hbW.cell (p := ⟨b, o + d * 8 + 6, none⟩) hb).trans (Hup.out 6 _ rfl)
  have y7 : W.cell? ⟨b, o + d * 8 + 7, none⟩ = some (B up.b7) := (hbW.cell (p := ⟨b, o + d * 8 + 7, none⟩) hb).trans (Hup.out 7 _ rfl)
  have hlt0 := hX.lt
  have hlt := hR.lt
  have hltb : b < W.heap.size := Nat.lt_of_lt_of_le hb hbW.size
  have i1 : (0 : Int) ≤ (d : Int) := by omega
  have i2 : (d : Int) < (d : Int) + 1 := by omega
  have i3 : (d : Int) ≤ (c : Int) := by omega
  have i4 : IntKind.i64.wrap (d : Int) = (d : Int) := by rw [IntKind.wrap_i64]; omega
  have i5 : IntKind.i64.wrap ((d : Int) + 1 - 1) = (d : Int) := by rw [IntKind.wrap_i64]; omega
  have i6 : (d : Int) + 1 - 1 = (d : Int) := by omega
  have i7 : (d : Int) ≤ 40 := by omega
  have n1 : ¬ W.heap.size = b := by omega
  have n2 : ¬ b = W.heap.size := by omega
  go_region_held3 (fun w' => w'.cell? ⟨b, o + d * 8, none⟩ = some (B up.b0) ∧ w'.cell? ⟨b, o + d * 8 + 1, none⟩ = some (B up.b1) ∧ w'.cell? ⟨b, o + d * 8 + 2, none⟩ = some (B up.b2) ∧ w'.cell? ⟨b, o + d * 8 + 3, none⟩ = some (B up.b3) ∧ w'.cell? ⟨b, o + d * 8 + 4, none⟩ = some (B up.b4) ∧ w'.cell? ⟨b, o + d * 8 + 5, none⟩ = some (B up.b5) ∧ w'.cell? ⟨b, o + d * 8 + 6, none⟩ = some (B up.b6) ∧ w'.cell? ⟨b, o + d * 8 + 7, none⟩ = some (B up.b7)) (go_keep)
    ((go_at_call 87; refine (HC.out _).mono ?_; rintro en w' ⟨rfl, rfl⟩))
  all_goals
    have hX1 : Blk ((W.alloc (Obj.cells up.cells 29)).drew) w.heap.size 29 leaf.cells := (hX.alloc _).drew
    have hR1 : Blk ((W.alloc (Obj.cells up.cells 29)).drew) (w.heap.size + 1) 29 #[.int .u8 0, .int .u8 0, .int .u8 0, .int .u8 0, .int .u8 0, .int .u8 0, .int .u8 0, .int .u8 0] := (hR.alloc _).drew
    have hU1 : Blk ((W.alloc (Obj.cells up.cells 29)).drew) W.heap.size 29 up.cells := (Blk.new W _ _).drew
    have hb0 : Below w.heap.size w ((W.alloc (Obj.cells up.cells 29)).drew) := (hbW.alloc hbW.size _).drew
    have hge : w.heap.size + 1 < W.heap.size := hR.lt
    clear y0 y1 y2 y3 y4 y5 y6 y7 hX hR hbW hlt0 hlt hltb n1 n2
    generalize ((W.alloc (Obj.cells up.cells 29)).drew) = W1 at *
    generalize W.heap.size = g at *
    have hlt1 := hX1.lt
    have hltg := hU1.lt
    have x0 : W1.cell? ⟨w.heap.size, 0, none⟩ = some (B leaf.b0) := hX1.cell 0
    have x1 : W1.cell? ⟨w.heap.size, 1, none⟩ = some (B leaf.b1) := hX1.cell 1
    have x2 : W1.cell? ⟨w.heap.size, 2, none⟩ = some (B leaf.b2) := hX1.cell 2
    have x3 : W1.cell? ⟨w.heap.size, 3, none⟩ = some (B leaf.b3) := hX1.cell 3
    have x4 : W1.cell? ⟨w.heap.size, 4, none⟩ = some (B leaf.b4) := hX1.cell 4
    have x5 : W1.cell? ⟨w.heap.size, 5, none⟩ = some (B leaf.b5) := hX1.cell 5
    have x6 : W1.cell? ⟨w.heap.size, 6, none⟩ = some (B leaf.b6) := hX1.cell 6
    have x7 : W1.cell? ⟨w.heap.size, 7, none⟩ = some (B leaf.b7) := hX1.cell 7
    have u0 : W1.cell? ⟨g, 0, none⟩ = some (B up.b0) := hU1.cell 0
    have u1 : W1.cell? ⟨g, 1, none⟩ = some (B up.b1) := hU1.cell 1
    have u2 : W1.cell? ⟨g, 2, none⟩ = some (B up.b2) := hU1.cell 2
    have u3 : W1.cell? ⟨g, 3, none⟩ = some (B up.b3) := hU1.cell 3
    have u4 : W1.cell? ⟨g, 4, none⟩ = some (B up.b4) := hU1.cell 4
    have u5 : W1.cell? ⟨g, 5, none⟩ = some (B up.b5) := hU1.cell 5
    have u6 : W1.cell? ⟨g, 6, none⟩ = some (B up.b6) := hU1.cell 6
    have u7 : W1.cell? ⟨g, 7, none⟩ = some (B up.b7) := hU1.cell 7
    have n1 : ¬ w.heap.size + 1 = g := by omega
    have n2 : ¬ g = w.heap.size + 1 := by omega
    go_wp2
    have HH1 : Hid (Calls Tryz.prog 137 #[leaf.val, .int .i64 ((i - k : Nat) : Int), .int .i64 (k : Int), .slice (some ⟨b, o, none⟩) d c] W1.drew fun e w' => e = .returned r1.val ∧ Below W1.heap.size W1 w' ∧ (w'.cell? ⟨w.heap.size, 0, none⟩ = some (B leaf.b0) ∧ w'.cell? ⟨w.heap.size, 1, none⟩ = some (B leaf.b1) ∧ w'.cell? ⟨w.heap.size, 2, none⟩ = some (B leaf.b2) ∧ w'.cell? ⟨w.heap.size, 3, none⟩ = some (B leaf.b3) ∧ w'.cell? ⟨w.heap.size, 4, none⟩ = some (B leaf.b4) ∧ w'.cell? ⟨w.heap.size, 5, none⟩ = some (B leaf.b5) ∧ w'.cell? ⟨w.heap.size, 6, none⟩ = some (B leaf.b6) ∧ w'.cell? ⟨w.heap.size, 7, none⟩ = some (B leaf.b7) ∧ w'.cell? ⟨g, 0, none⟩ = some (B up.b0) ∧ w'.cell? ⟨g, 1, none⟩ = some (B up.b1) ∧ w'.cell? ⟨g, 2, none⟩ = some (B up.b2) ∧ w'.cell? ⟨g, 3, none⟩ = some (B up.b3) ∧ w'.cell? ⟨g, 4, none⟩ = some (B up.b4) ∧ w'.cell? ⟨g, 5, none⟩ = some (B up.b5) ∧ w'.cell? ⟨g, 6, none⟩ = some (B up.b6) ∧ w'.cell? ⟨g, 7, none⟩ = some (B up.b7))) := by
      refine (H1.out _ hb0.drew).mono ?_
      rintro en w1 ⟨rfl, hb1⟩
      have hb2 : Below W1.heap.size W1 w1 := (Below.refl _ _).drew.trans hb1
      exact ⟨rfl, hb2, (hb2.cell (p := ⟨w.heap.size, 0, none⟩) hlt1).trans x0, (hb2.cell (p := ⟨w.heap.size, 1, none⟩) hlt1).trans x1, (hb2.cell (p := ⟨w.heap.size, 2, none⟩) hlt1).trans x2, (hb2.cell (p := ⟨w.heap.size, 3, none⟩) hlt1).trans x3, (hb2.cell (p := ⟨w.heap.size, 4, none⟩) hlt1).trans x4, (hb2.cell (p := ⟨w.heap.size, 5, none⟩) hlt1).trans x5, (hb2.cell (p := ⟨w.heap.size, 6, none⟩) hlt1).trans x6, (hb2.cell (p := ⟨w.heap.size, 7, none⟩) hlt1).trans x7, (hb2.cell (p := ⟨g, 0, none⟩) hltg).trans u0, (hb2.cell (p := ⟨g, 1, none⟩) hltg).trans u1, (hb2.cell (p := ⟨g, 2, none⟩) hltg).trans u2, (hb2.cell (p := ⟨g, 3, none⟩) hltg).trans u3, (hb2.cell (p := ⟨g, 4, none⟩) hltg).trans u4, (hb2.cell (p := ⟨g, 5, none⟩) hltg).trans u5, (hb2.cell (p := ⟨g, 6, none⟩) hltg).trans u6, (hb2.cell (p := ⟨g, 7, none⟩) hltg).trans u7⟩
    have HH2 : Hid (∀ w1, Below W1.heap.size W1 w1 → Calls Tryz.prog 88 #[.int .u8 18, up.val, r1.val] w1 fun e w' => e = .returned r.val ∧ Below W1.heap.size W1 w' ∧ (w'.cell? ⟨w.heap.size, 0, none⟩ = some (B leaf.b0) ∧ w'.cell? ⟨w.heap.size, 1, none⟩ = some (B leaf.b1) ∧ w'.cell? ⟨w.heap.size, 2, none⟩ = some (B leaf.b2) ∧ w'.cell? ⟨w.heap.size, 3, none⟩ = some (B leaf.b3) ∧ w'.cell? ⟨w.heap.size, 4, none⟩ = some (B leaf.b4) ∧ w'.cell? ⟨w.heap.size, 5, none⟩ = some (B leaf.b5) ∧ w'.cell? ⟨w.heap.size, 6, none⟩ = some (B leaf.b6) ∧ w'.cell? ⟨w.heap.size, 7, none⟩ = some (B leaf.b7) ∧ w'.cell? ⟨g, 0, none⟩ = some (B up.b0) ∧ w'.cell? ⟨g, 1, none⟩ = some (B up.b1) ∧ w'.cell? ⟨g, 2, none⟩ = some (B up.b2) ∧ w'.cell? ⟨g, 3, none⟩ = some (B up.b3) ∧ w'.cell? ⟨g, 4, none⟩ = some (B up.b4) ∧ w'.cell? ⟨g, 5, none⟩ = some (B up.b5) ∧ w'.cell? ⟨g, 6, none⟩ = some (B up.b6) ∧ w'.cell? ⟨g, 7, none⟩ = some (B up.b7)) ∧ (w'.cell? ⟨w.heap.size + 1, 0, none⟩ = some (.int .u8 0) ∧ w'.frozen? ⟨w.heap.size + 1, 0, none⟩ = false ∧ w'.cell? ⟨w.heap.size + 1, 1, none⟩ = some (.int .u8 0) ∧ w'.frozen? ⟨w.heap.size + 1, 1, none⟩ = false ∧ w'.cell? ⟨w.heap.size + 1, 2, none⟩ = some (.int .u8 0) ∧ w'.frozen? ⟨w.heap.size + 1, 2, none⟩ = false ∧ w'.cell? ⟨w.heap.size + 1, 3, none⟩ = some (.int .u8 0) ∧ w'.frozen? ⟨w.heap.size + 1, 3, none⟩ = false ∧ w'.cell? ⟨w.heap.size + 1, 4, none⟩ = some (.int .u8 0) ∧ w'.frozen? ⟨w.heap.size + 1, 4, none⟩ = false ∧ w'.cell? ⟨w.heap.size + 1, 5, none⟩ = some (.int .u8 0) ∧ w'.frozen? ⟨w.heap.size + 1, 5, none⟩ = false ∧ w'.cell? ⟨w.heap.size + 1, 6, none⟩ = some (.int .u8 0) ∧ w'.frozen? ⟨w.heap.size + 1, 6, none⟩ = false ∧ w'.cell? ⟨w.heap.size + 1, 7, none⟩ = some (.int .u8 0) ∧ w'.frozen? ⟨w.heap.size + 1, 7, none⟩ = false)) := by
      intro w1 hbx
      refine (rpair_core 18 up r1 r _ HS.out).mono ?_
      rintro en w2 ⟨rfl, hb1⟩
      have hb2 : Below W1.heap.size W1 w2 := hbx.trans (hb1.mono hbx.size)
      have hR2 := hR1.below hb2 hR1.lt
      exact ⟨rfl, hb2, ⟨(hb2.cell (p := ⟨w.heap.size, 0, none⟩) hlt1).trans x0, (hb2.cell (p := ⟨w.heap.size, 1, none⟩) hlt1).trans x1, (hb2.cell (p := ⟨w.heap.size, 2, none⟩) hlt1).trans x2, (hb2.cell (p := ⟨w.heap.size, 3, none⟩) hlt1).trans x3, (hb2.cell (p := ⟨w.heap.size, 4, none⟩) hlt1).trans x4, (hb2.cell (p := ⟨w.heap.size, 5, none⟩) hlt1).trans x5, (hb2.cell (p := ⟨w.heap.size, 6, none⟩) hlt1).trans x6, (hb2.cell (p := ⟨w.heap.size, 7, none⟩) hlt1).trans x7, (hb2.cell (p := ⟨g, 0, none⟩) hltg).trans u0, (hb2.cell (p := ⟨g, 1, none⟩) hltg).trans u1, (hb2.cell (p := ⟨g, 2, none⟩) hltg).trans u2, (hb2.cell (p := ⟨g, 3, none⟩) hltg).trans u3, (hb2.cell (p := ⟨g, 4, none⟩) hltg).trans u4, (hb2.cell (p := ⟨g, 5, none⟩) hltg).trans u5, (hb2.cell (p := ⟨g, 6, none⟩) hltg).trans u6, (hb2.cell (p := ⟨g, 7, none⟩) hltg).trans u7⟩, hR2.cell 0, hR2.frozen 0, hR2.cell 1, hR2.frozen 1, hR2.cell 2, hR2.frozen 2, hR2.cell 3, hR2.frozen 3, hR2.cell 4, hR2.frozen 4, hR2.cell 5, hR2.frozen 5, hR2.cell 6, hR2.frozen 6, hR2.cell 7, hR2.frozen 7⟩
    go_region_held3 (fun w' => w'.cell? ⟨w.heap.size, 0, none⟩ = some (B leaf.b0) ∧ w'.cell? ⟨w.heap.size, 1, none⟩ = some (B leaf.b1) ∧ w'.cell? ⟨w.heap.size, 2, none⟩ = some (B leaf.b2) ∧ w'.cell? ⟨w.heap.size, 3, none⟩ = some (B leaf.b3) ∧ w'.cell? ⟨w.heap.size, 4, none⟩ = some (B leaf.b4) ∧ w'.cell? ⟨w.heap.size, 5, none⟩ = some (B leaf.b5) ∧ w'.cell? ⟨w.heap.size, 6, none⟩ = some (B leaf.b6) ∧ w'.cell? ⟨w.heap.size, 7, none⟩ = some (B leaf.b7) ∧ w'.cell? ⟨g, 0, none⟩ = some (B up.b0) ∧ w'.cell? ⟨g, 1, none⟩ = some (B up.b1) ∧ w'.cell? ⟨g, 2, none⟩ = some (B up.b2) ∧ w'.cell? ⟨g, 3, none⟩ = some (B up.b3) ∧ w'.cell? ⟨g, 4, none⟩ = some (B up.b4) ∧ w'.cell? ⟨g, 5, none⟩ = some (B up.b5) ∧ w'.cell? ⟨g, 6, none⟩ = some (B up.b6) ∧ w'.cell? ⟨g, 7, none⟩ = some (B up.b7)) (go_keep)
      ((first
        | (go_at_call 137; refine HH1.out.mono ?_; rintro en w1 ⟨rfl, hb1, p0, p1, p2, p3, p4, p5, p6, p7, p8, p9, p10, p11, p12, p13, p14, p15⟩)
        | (go_at_call 88; refine (HH2.out _ hb1).mono ?_; rintro en w2 ⟨rfl, hb2, ⟨q0, q1, q2, q3, q4, q5, q6, q7, q8, q9, q10, q11, q12, q13, q14, q15⟩, z0, f0, z1, f1, z2, f2, z3, f3, z4, f4, z5, f5, z6, f6, z7, f7⟩)))
    all_goals
      have hbW2 : Below w.heap.size w w2 := hb0.trans (hb2.mono hb0.size)
      have hR6 := (((((((((hR1.below hb2 hR1.lt).put 0 (B r.b0)).put 1 (B r.b1)).put 2 (B r.b2)).put 3 (B r.b3)).put 4 (B r.b4)).put 5 (B r.b5)).put 6 (B r.b6)).put 7 (B r.b7))
      have hbw6 := ((((((((hbW2.setCell (p := ⟨w.heap.size + 1, 0, none⟩) (by simp) (B r.b0)).setCell (p := ⟨w.heap.size + 1, 1, none⟩) (by simp) (B r.b1)).setCell (p := ⟨w.heap.size + 1, 2, none⟩) (by simp) (B r.b2)).setCell (p := ⟨w.heap.size + 1, 3, none⟩) (by simp) (B r.b3)).setCell (p := ⟨w.heap.size + 1, 4, none⟩) (by simp) (B r.b4)).setCell (p := ⟨w.heap.size + 1, 5, none⟩) (by simp) (B r.b5)).setCell (p := ⟨w.heap.size + 1, 6, none⟩) (by simp) (B r.b6)).setCell (p := ⟨w.heap.size + 1, 7, none⟩) (by simp) (B r.b7))
      clear p0 p1 p2 p3 p4 p5 p6 p7 p8 p9 p10 p11 p12 p13 p14 p15 q0 q1 q2 q3 q4 q5 q6 q7 q8 q9 q10 q11 q12 q13 q14 q15 z0 z1 z2 z3 z4 z5 z6 z7 f0 f1 f2 f3 f4 f5 f6 f7 x0 x1 x2 x3 x4 x5 x6 x7 u0 u1 u2 u3 u4 u5 u6 u7 HH1 HH2 hR1 hX1 hU1
      go_wp2
      exact bodyPost_ret (results_cell_row (g := w.heap.size + 1) (cs := r.cells) rfl _ _ _ _ _ rfl hR6 Tryz.underlying29 rfl size_name) rfl ⟨rfl, hbw6⟩
end Go.Proofs.YthmecidpjlaonaaGreat
namespace Go.Proofs.YthmecidpjlaonaaGreat
open Go.RowKit

set_option maxRecDepth 100000 in
set_option maxHeartbeats 1000000 in
theorem follow_zero (i : Nat) (leaf r : Nm) (A : Option Addr) (c : Nat) (w : World) (hr : sumF (17 :: leaf.bytes) = r) :
    Calls Tryz.prog 137 #[leaf.val, .int .i64 (i : Int), .int .i64 1, .slice A 0 c] w (NmPost w r) := by
  have HS := Lib.hid hr; clear hr
  go_enter Tryz.func137, Tryz.ntmps137
  go_wp2_with fail
  have hX : Blk ((w.alloc (Obj.cells leaf.cells 29)).alloc (Obj.cells #[.int .u8 0, .int .u8 0, .int .u8 0, .int .u8 0, .int .u8 0, .int .u8 0, .int .u8 0, .int .u8 0] 29)) w.heap.size 29 leaf.cells := (Blk.new w _ _).alloc _
  have hR : Blk ((w.alloc (Obj.cells leaf.cells 29)).alloc (Obj.cells #[.int .u8 0, .int .u8 0, .int .u8 0, .int .u8 0, .int .u8 0, .int .u8 0, .int .u8 0, .int .u8 0] 29)) (w.heap.size + 1) 29 #[.int .u8 0, .int .u8 0, .int .u8 0, .int .u8 0, .int .u8 0, .int .u8 0, .int .u8 0, .int .u8 0] := by
    have := Blk.new (w.alloc (Obj.cells leaf.cells 29)) 29 #[.int .u8 0, .int .u8 0, .int .u8 0, .int .u8 0, .int .u8 0, .int .u8 0, .int .u8 0, .int .u8 0]
    simpa using this
  have hbW : Below w.heap.size w ((w.alloc (Obj.cells leaf.cells 29)).alloc (Obj.cells #[.int .u8 0, .int .u8 0, .int .u8 0, .int .u8 0, .int .u8 0, .int .u8 0, .int .u8 0, .int .u8 0] 29)) := ((Below.refl _ _).alloc (Nat.le_refl _) _).alloc (by simp) _
  generalize ((w.alloc (Obj.cells leaf.cells 29)).alloc (Obj.cells #[.int .u8 0, .int .u8 0, .int .u8 0, .int .u8 0, .int .u8 0, .int .u8 0, .int .u8 0, .int .u8 0] 29)) = W at *
  have hrd : Rd W W.heap.size (some ⟨w.heap.size, 0, none⟩) (leaf.bytes.map B) := by
    have h := Rd.of_blk hX 0 8
    simpa [Nm.bytes] using h
  have hcall : Calls Tryz.prog 86 #[.int .u8 17, .slice (some ⟨w.heap.size, 0, none⟩) 8 8] W (NmPost W r) := rtagged_core 17 _ 8 leaf.bytes r W hrd (by simp [Nm.bytes]) HS.out
  refine hcall.mono ?_
  clear hcall hrd hX
  rintro en w5 ⟨rfl, hb5⟩
  have hZ5 := hR.below hb5 hR.lt
  have hbw5 := hbW.trans (hb5.mono hbW.size)
  clear hR hbW hb5
  go_wp2_with (refine wpList_store_blk rfl 29 (.tmp 8) (.tmp 14) rfl (w.heap.size + 1) _ rfl rfl 29 _ hZ5 rfl size_name ?s2 ?_)
  case s2 => exact ⟨rfl, rfl, rfl, rfl, rfl, rfl, rfl, rfl⟩
  intro w6 hZ6 hg6 hs6
  have hbw6 : Below w.heap.size w w6 := hbw5.grown hg6 hbw5.size (by rintro j ⟨⟩; omega)
  go_wp2
  exact bodyPost_ret (results_cell_row (g := w.heap.size + 1) rfl _ _ _ _ _ _ rfl hZ6 Tryz.underlying29 rfl size_name) rfl ⟨rfl, hbw6⟩

theorem follow_any (leaf : Nm) (c b o : Nat) (path : List Nm) : ∀ (d i n : Nat) (w : World), n = 2 ^ d → d ≤ 40 → d ≤ path.length → d ≤ c → i < n → b < w.heap.size → PathAt w b o path →
    Calls Tryz.prog 137 #[leaf.val, .int .i64 (i : Int), .int .i64 (n : Int), .slice (some ⟨b, o, none⟩) d c] w (NmPost w (followF leaf d i path))
  | 0, i, n, w, hn, _, _, _, _, _, _ => by
    obtain rfl : n = 1 := hn
    exact follow_zero i leaf _ _ c w rfl
  | d + 1, i, n, w, hn, hd, hl, hc, hi, hb, hp => by
    have hx : path[d]? = some (path.getD d Nm.zero) := by
      rw [List.getD_eq_getElem?_getD, List.getElem?_eq_getElem (by omega)]; rfl
    have h2 : n = 2 * 2 ^ d := by rw [hn, Nat.pow_succ]; omega
    by_cases h : i < 2 ^ d
    · rw [followF, if_pos h]
      exact follow_lt d i n (2 ^ d) c b o leaf (followF leaf d i path) (path.getD d Nm.zero) _ w rfl hn (by omega) h hc hb (hp d _ hx)
        (fun W hW => follow_any leaf c b o path d i (2 ^ d) W rfl (by omega) (by omega) (by omega) h (Nat.lt_of_lt_of_le hb hW.size) (hp.below hb hW)) rfl
    · rw [followF, if_neg h]
      exact follow_ge d i n (2 ^ d) c b o leaf (followF leaf d (i - 2 ^ d) path) (path.getD d Nm.zero) _ w rfl hn (by omega) (by omega) hi hc hb (hp d _ hx)
        (fun W hW => follow_any leaf c b o path d (i - 2 ^ d) (2 ^ d) W rfl (by omega) (by omega) (by omega) (by omega) (Nat.lt_of_lt_of_le hb hW.size) (hp.below hb hW)) rfl
end Go.Proofs.YthmecidpjlaonaaGreat
