/-
  manytime.climbed returns the root that a part of a signature shows (climbF), and changes nothing that was there. Condition: the signature's bytes lie in memory below the call and suffice.
  manytime.Verify at two levels returns whether a signature verifies (verF), and changes nothing that was there. Condition: the signature's bytes lie in memory below the call.
-/
import Derived.Test.YthmecidpjlaonaaGreatSGRec
import Derived.Deep.DeepCutAuto
namespace Go.Proofs.YthmecidpjlaonaaGreat
open Go.RowKit
attribute [local go_sem ↓] Go.wp_at_zero Go.wp_at_succ
theorem pathAt_of_rd {w : World} {B' b o : Nat} {l : List Nm} (h : Rd w B' (some ⟨b, o, none⟩) (l.flatMap nmc)) : PathAt w b o l := by
  intro t nm ht j u hu
  obtain ⟨b', o', e, _, hc⟩ := h.name ht
  injection e with e
  injection e with e1 e2
  subst e1; subst e2
  exact hc j u (by simpa using hu)
/-- Eight cells stored one by one. -/
theorem Blk.put8 {w : World} {g : Nat} (x : Nm) (h : Blk w g 29 zero8) :
    Blk ((((((((w.setCell ⟨g, 0, none⟩ (B x.b0)).setCell ⟨g, 1, none⟩ (B x.b1)).setCell ⟨g, 2, none⟩ (B x.b2)).setCell ⟨g, 3, none⟩ (B x.b3)).setCell ⟨g, 4, none⟩ (B x.b4)).setCell ⟨g, 5, none⟩ (B x.b5)).setCell ⟨g, 6, none⟩ (B x.b6)).setCell ⟨g, 7, none⟩ (B x.b7)) g 29 x.cells := by
  have h1 := (((((((h.put 0 (B x.b0)).put 1 (B x.b1)).put 2 (B x.b2)).put 3 (B x.b3)).put 4 (B x.b4)).put 5 (B x.b5)).put 6 (B x.b6)).put 7 (B x.b7)
  simpa using h1
theorem bel8 {B' : Nat} {w0 w : World} {g : Nat} (x : Nm) (h : Below B' w0 w) (hg : B' ≤ g) :
    Below B' w0 ((((((((w.setCell ⟨g, 0, none⟩ (B x.b0)).setCell ⟨g, 1, none⟩ (B x.b1)).setCell ⟨g, 2, none⟩ (B x.b2)).setCell ⟨g, 3, none⟩ (B x.b3)).setCell ⟨g, 4, none⟩ (B x.b4)).setCell ⟨g, 5, none⟩ (B x.b5)).setCell ⟨g, 6, none⟩ (B x.b6)).setCell ⟨g, 7, none⟩ (B x.b7)) :=
  (((((((h.setCell (p := ⟨g, 0, none⟩) hg _).setCell (p := ⟨g, 1, none⟩) hg _).setCell (p := ⟨g, 2, none⟩) hg _).setCell (p := ⟨g, 3, none⟩) hg _).setCell (p := ⟨g, 4, none⟩) hg _).setCell (p := ⟨g, 5, none⟩) hg _).setCell (p := ⟨g, 6, none⟩) hg _).setCell (p := ⟨g, 7, none⟩) hg _

theorem Blk.c8 {w : World} {g : Nat} {x : Nm} (h : Blk w g 29 x.cells) : w.cell? ⟨g, 0, none⟩ = some (B x.b0) ∧ w.cell? ⟨g, 1, none⟩ = some (B x.b1) ∧ w.cell? ⟨g, 2, none⟩ = some (B x.b2) ∧ w.cell? ⟨g, 3, none⟩ = some (B x.b3) ∧ w.cell? ⟨g, 4, none⟩ = some (B x.b4) ∧ w.cell? ⟨g, 5, none⟩ = some (B x.b5) ∧ w.cell? ⟨g, 6, none⟩ = some (B x.b6) ∧ w.cell? ⟨g, 7, none⟩ = some (B x.b7) :=
  ⟨h.cell 0, h.cell 1, h.cell 2, h.cell 3, h.cell 4, h.cell 5, h.cell 6, h.cell 7⟩
theorem Blk.z8 {w : World} {g : Nat} (h : Blk w g 29 zero8) : w.cell? ⟨g, 0, none⟩ = some (.int .u8 0) ∧ w.frozen? ⟨g, 0, none⟩ = false ∧ w.cell? ⟨g, 1, none⟩ = some (.int .u8 0) ∧ w.frozen? ⟨g, 1, none⟩ = false ∧ w.cell? ⟨g, 2, none⟩ = some (.int .u8 0) ∧ w.frozen? ⟨g, 2, none⟩ = false ∧ w.cell? ⟨g, 3, none⟩ = some (.int .u8 0) ∧ w.frozen? ⟨g, 3, none⟩ = false ∧ w.cell? ⟨g, 4, none⟩ = some (.int .u8 0) ∧ w.frozen? ⟨g, 4, none⟩ = false ∧ w.cell? ⟨g, 5, none⟩ = some (.int .u8 0) ∧ w.frozen? ⟨g, 5, none⟩ = false ∧ w.cell? ⟨g, 6, none⟩ = some (.int .u8 0) ∧ w.frozen? ⟨g, 6, none⟩ = false ∧ w.cell? ⟨g, 7, none⟩ = some (.int .u8 0) ∧ w.frozen? ⟨g, 7, none⟩ = false :=
  ⟨h.cell 0, h.frozen 0, h.cell 1, h.frozen 1, h.cell 2, h.frozen 2, h.cell 3, h.frozen 3, h.cell 4, h.frozen 4, h.cell 5, h.frozen 5, h.cell 6, h.frozen 6, h.cell 7, h.frozen 7⟩

/-- What a region with two calls and a new variable leaves: the variable holds a name, and all that was there is as it was. -/
def CutP (W : World) (y : Nm) (s : Value) (wx : World) : Prop := ∃ g, s = .pointer (some ⟨g, 0, none⟩) ∧ W.heap.size ≤ g ∧ Blk wx g 29 y.cells ∧ Below W.heap.size W wx
theorem wayC {W w2 w3 : World} {y : Nm} (hb2 : Below W.drew.heap.size W.drew w2) (hb3 : Below w2.heap.size w2 w3) : CutP W y (.pointer (some ⟨w3.heap.size, 0, none⟩)) (w3.alloc (.cells y.cells 29)) := by
  have h2 : Below W.heap.size W w2 := (Below.refl _ _).drew.trans hb2
  have h3 : Below W.heap.size W w3 := h2.trans (hb3.mono h2.size)
  exact ⟨_, rfl, h3.size, Blk.new _ _ _, h3.alloc h3.size _⟩
theorem wayB {W w2 w3 : World} {y : Nm} (hb2 : Below W.drew.heap.size W.drew w2) (hb3 : Below (w2.alloc (.cells zero8 29)).heap.size (w2.alloc (.cells zero8 29)) w3) :
    CutP W y (.pointer (some ⟨w2.heap.size, 0, none⟩)) ((((((((w3.setCell ⟨w2.heap.size, 0, none⟩ (B y.b0)).setCell ⟨w2.heap.size, 1, none⟩ (B y.b1)).setCell ⟨w2.heap.size, 2, none⟩ (B y.b2)).setCell ⟨w2.heap.size, 3, none⟩ (B y.b3)).setCell ⟨w2.heap.size, 4, none⟩ (B y.b4)).setCell ⟨w2.heap.size, 5, none⟩ (B y.b5)).setCell ⟨w2.heap.size, 6, none⟩ (B y.b6)).setCell ⟨w2.heap.size, 7, none⟩ (B y.b7)) := by
  have h2 : Below W.heap.size W w2 := (Below.refl _ _).drew.trans hb2
  have h2' := h2.alloc h2.size (.cells zero8 29)
  have h3 : Below W.heap.size W w3 := h2'.trans (hb3.mono h2'.size)
  exact ⟨_, rfl, h2.size, ((Blk.new w2 _ _).below hb3 (Blk.new w2 _ _).lt).put8 y, bel8 y h3 h2.size⟩
theorem wayA {W w2 w3 : World} {y : Nm} (hb2 : Below (W.alloc (.cells zero8 29)).drew.heap.size (W.alloc (.cells zero8 29)).drew w2) (hb3 : Below w2.heap.size w2 w3) :
    CutP W y (.pointer (some ⟨W.heap.size, 0, none⟩)) ((((((((w3.setCell ⟨W.heap.size, 0, none⟩ (B y.b0)).setCell ⟨W.heap.size, 1, none⟩ (B y.b1)).setCell ⟨W.heap.size, 2, none⟩ (B y.b2)).setCell ⟨W.heap.size, 3, none⟩ (B y.b3)).setCell ⟨W.heap.size, 4, none⟩ (B y.b4)).setCell ⟨W.heap.size, 5, none⟩ (B y.b5)).setCell ⟨W.heap.size, 6, none⟩ (B y.b6)).setCell ⟨W.heap.size, 7, none⟩ (B y.b7)) := by
  have h1 : Below W.heap.size W (W.alloc (.cells zero8 29)).drew := ((Below.refl _ _).alloc (Nat.le_refl _) _).drew
  have h2 : Below W.heap.size W w2 := h1.trans (hb2.mono h1.size)
  have h3 : Below W.heap.size W w3 := h2.trans (hb3.mono h2.size)
  have hB2 := ((Blk.new W 29 zero8).drew).below hb2 (Blk.new W 29 zero8).lt
  exact ⟨_, rfl, Nat.le_refl _, (hB2.below hb3 hB2.lt).put8 y, bel8 y h3 (Nat.le_refl _)⟩

set_option maxRecDepth 100000 in
set_option maxHeartbeats 4000000 in
theorem climbed_any (A : Option Addr) (c at_ j : Nat) (l : List UInt8) (m : Nm) (w : World) (hr : Rd w w.heap.size A (l.map B)) (hlen : l.length ≤ 1000000) (hc : l.length ≤ c) (hm : c ≤ maxLen) (h : at_ + 184 ≤ l.length) (hj : j < 32) :
    Calls Tryz.prog 94 #[.slice A l.length c, .int .i64 (at_ : Int), .int .i64 (j : Int), m.val] w (NmPost w (climbF l at_ j m)) := by
  have hN1 : ∀ W, Below w.heap.size w W → Calls Tryz.prog 131 #[.slice A l.length c, .int .i64 (at_ : Int), .int .i64 18] W (NamesPost W 18 (namesF l at_ 18)) := fun W hW =>
    names_any A c at_ 18 l W ((hr.below hW).more hW.size) hlen hc hm (by omega) (by omega) (by omega)
  have hN2 : ∀ W, Below w.heap.size w W → Calls Tryz.prog 131 #[.slice A l.length c, .int .i64 ((at_ : Int) + 144), .int .i64 5] W (NamesPost W 5 (namesF l (at_ + 144) 5)) := fun W hW =>
    names_any A c (at_ + 144) 5 l W ((hr.below hW).more hW.size) hlen hc hm (by omega) (by omega) (by omega)
  have hR1 : ∀ W g, NamesAt W g 18 (namesF l at_ 18) → Calls Tryz.prog 130 #[m.val, .slice (some ⟨g, 0, none⟩) 18 18] W fun e w' => e = .returned (.tuple #[(recF m (namesF l at_ 18)).val, .bool true]) ∧ Below W.heap.size W w' := fun W g hg =>
    recover_any m _ _ 18 W hg.rd (namesF_len _ _ _)
  have hF1 : ∀ W g, NamesAt W g 5 (namesF l (at_ + 144) 5) → Calls Tryz.prog 132 #[(recF m (namesF l at_ 18)).val, .int .i64 (j : Int), .int .i64 32, .slice (some ⟨g, 0, none⟩) 5 5] W fun e w' => e = .returned (.tuple #[(climbF l at_ j m).val, .bool true]) ∧ Below W.heap.size W w' := fun W g hg =>
    mfollow_any _ _ j 5 g 0 W hj fun W2 hW2 => computed_any _ 5 g 0 (namesF l (at_ + 144) 5) 5 j 32 W2 rfl (by omega) (by rw [namesF_len]; omega) (by omega) hj (Nat.lt_of_lt_of_le hg.lt hW2.size) ((pathAt_of_rd hg.rd).below hg.lt hW2)
  have HN1 := Lib.hid hN1; clear hN1
  have HN2 := Lib.hid hN2; clear hN2
  have HR1 := Lib.hid hR1; clear hR1
  have HF1 := Lib.hid hF1; clear hF1
  clear hr
  generalize namesF l at_ 18 = n1 at *
  generalize namesF l (at_ + 144) 5 = n2 at *
  generalize recF m n1 = key at *
  obtain ⟨r, hr⟩ : ∃ r, r = climbF l at_ j m := ⟨_, rfl⟩
  rw [← hr] at HF1
  rw [← hr]
  clear hr
  go_enter Tryz.func94, Tryz.ntmps94
  go_upto_region 1 with fail
  have hX : Blk ((w.alloc (Obj.cells m.cells 29)).alloc (Obj.cells zero8 29)) w.heap.size 29 m.cells := (Blk.new w _ _).alloc _
  have hR : Blk ((w.alloc (Obj.cells m.cells 29)).alloc (Obj.cells zero8 29)) (w.heap.size + 1) 29 zero8 := by
    have := Blk.new (w.alloc (Obj.cells m.cells 29)) 29 zero8
    simpa using this
  have hbW : Below w.heap.size w ((w.alloc (Obj.cells m.cells 29)).alloc (Obj.cells zero8 29)) := ((Below.refl _ _).alloc (Nat.le_refl _) _).alloc (by simp) _
  generalize ((w.alloc (Obj.cells m.cells 29)).alloc (Obj.cells zero8 29)) = W at *
  go_cut [9] (fun s9 wx => CutP W key s9 wx)
  case first =>
    have x0 : W.cell? ⟨w.heap.size, 0, none⟩ = some (B m.b0) := hX.cell 0
    have x1 : W.cell? ⟨w.heap.size, 1, none⟩ = some (B m.b1) := hX.cell 1
    have x2 : W.cell? ⟨w.heap.size, 2, none⟩ = some (B m.b2) := hX.cell 2
    have x3 : W.cell? ⟨w.heap.size, 3, none⟩ = some (B m.b3) := hX.cell 3
    have x4 : W.cell? ⟨w.heap.size, 4, none⟩ = some (B m.b4) := hX.cell 4
    have x5 : W.cell? ⟨w.heap.size, 5, none⟩ = some (B m.b5) := hX.cell 5
    have x6 : W.cell? ⟨w.heap.size, 6, none⟩ = some (B m.b6) := hX.cell 6
    have x7 : W.cell? ⟨w.heap.size, 7, none⟩ = some (B m.b7) := hX.cell 7
    have hlt0 := hX.lt
    have e0 : ¬ W.heap.size = w.heap.size := Nat.ne_of_gt hX.lt
    have e1 : ¬ w.heap.size = W.heap.size := Nat.ne_of_lt hX.lt
    go_region_held3 (fun w' => w'.cell? ⟨w.heap.size, 0, none⟩ = some (B m.b0) ∧ w'.cell? ⟨w.heap.size, 1, none⟩ = some (B m.b1) ∧ w'.cell? ⟨w.heap.size, 2, none⟩ = some (B m.b2) ∧ w'.cell? ⟨w.heap.size, 3, none⟩ = some (B m.b3) ∧ w'.cell? ⟨w.heap.size, 4, none⟩ = some (B m.b4) ∧ w'.cell? ⟨w.heap.size, 5, none⟩ = some (B m.b5) ∧ w'.cell? ⟨w.heap.size, 6, none⟩ = some (B m.b6) ∧ w'.cell? ⟨w.heap.size, 7, none⟩ = some (B m.b7)) (go_keep)
      ((first
        | (go_at_call 131; refine (HN1.out _ (by first | exact hbW.drew | exact (hbW.alloc hbW.size _).drew)).mono ?_; rintro en w2 ⟨g2, rfl, hN2, hb2⟩; have hX2 : Blk w2 (w.heap.size) 29 m.cells := (by first | exact hX.drew.below hb2 hX.lt | exact ((hX.alloc _).drew).below hb2 (hX.alloc _).lt); have ne2 : ¬ w2.heap.size = w.heap.size := Nat.ne_of_gt hX2.lt; have ne2' : ¬ w.heap.size = w2.heap.size := Nat.ne_of_lt hX2.lt; obtain ⟨p0, p1, p2, p3, p4, p5, p6, p7⟩ := hX2.c8)
        | (go_at_call 130; refine (HR1.out _ _ (by first | exact hN2 | exact hN2.alloc _)).mono ?_; rintro en w3 ⟨rfl, hb3⟩; have hX3 : Blk w3 (w.heap.size) 29 m.cells := (by first | exact hX2.below hb3 hX2.lt | exact (hX2.alloc _).below hb3 (hX2.alloc _).lt); have ne3 : ¬ w3.heap.size = w.heap.size := Nat.ne_of_gt hX3.lt; have ne3' : ¬ w.heap.size = w3.heap.size := Nat.ne_of_lt hX3.lt; obtain ⟨q0, q1, q2, q3, q4, q5, q6, q7⟩ := hX3.c8; (try (obtain ⟨z0, f0, z1, f1, z2, f2, z3, f3, z4, f4, z5, f5, z6, f6, z7, f7⟩ := Blk.z8 ((((Blk.new W 29 zero8).drew).below hb2 (Blk.new W 29 zero8).lt).below hb3 (((Blk.new W 29 zero8).drew).below hb2 (Blk.new W 29 zero8).lt).lt))); (try (obtain ⟨z0, f0, z1, f1, z2, f2, z3, f3, z4, f4, z5, f5, z6, f6, z7, f7⟩ := Blk.z8 ((Blk.new w2 29 zero8).below hb3 (Blk.new w2 29 zero8).lt))))))
    all_goals (go_wp2_with fail)
    all_goals go_meet
    · exact wayC hb2 hb3
    · exact wayB hb2 hb3
    · exact wayA hb2 hb3
  case rest =>
    obtain ⟨g, rfl, hg, hK, hb1⟩ := hcut
    replace hR := hR.below hb1 hR.lt
    replace hbW := hbW.trans (hb1.mono hbW.size)
    clear hb1 hX
    go_upto_region 2 with fail
    have hsz : W.heap.size ≤ wc.heap.size := Nat.le_trans hg (Nat.le_of_lt hK.lt)
    go_cut [11] (fun s wx => CutP wc r s wx)
    case first =>
      have hw : IntKind.i64.wrap ((at_ : Int) + 144) = (at_ : Int) + 144 := IntWalk.i64_in _ (by omega)
      have x0 : wc.cell? ⟨g, 0, none⟩ = some (B key.b0) := hK.cell 0
      have x1 : wc.cell? ⟨g, 1, none⟩ = some (B key.b1) := hK.cell 1
      have x2 : wc.cell? ⟨g, 2, none⟩ = some (B key.b2) := hK.cell 2
      have x3 : wc.cell? ⟨g, 3, none⟩ = some (B key.b3) := hK.cell 3
      have x4 : wc.cell? ⟨g, 4, none⟩ = some (B key.b4) := hK.cell 4
      have x5 : wc.cell? ⟨g, 5, none⟩ = some (B key.b5) := hK.cell 5
      have x6 : wc.cell? ⟨g, 6, none⟩ = some (B key.b6) := hK.cell 6
      have x7 : wc.cell? ⟨g, 7, none⟩ = some (B key.b7) := hK.cell 7
      have hlt0 := hK.lt
      have e0 : ¬ wc.heap.size = g := Nat.ne_of_gt hK.lt
      have e1 : ¬ g = wc.heap.size := Nat.ne_of_lt hK.lt
      go_region_held3 (fun w' => w'.cell? ⟨g, 0, none⟩ = some (B key.b0) ∧ w'.cell? ⟨g, 1, none⟩ = some (B key.b1) ∧ w'.cell? ⟨g, 2, none⟩ = some (B key.b2) ∧ w'.cell? ⟨g, 3, none⟩ = some (B key.b3) ∧ w'.cell? ⟨g, 4, none⟩ = some (B key.b4) ∧ w'.cell? ⟨g, 5, none⟩ = some (B key.b5) ∧ w'.cell? ⟨g, 6, none⟩ = some (B key.b6) ∧ w'.cell? ⟨g, 7, none⟩ = some (B key.b7)) (go_keep)
        ((first
          | (go_at_call 131; refine (HN2.out _ (by first | exact hbW.drew | exact (hbW.alloc hbW.size _).drew)).mono ?_; rintro en w2 ⟨g2, rfl, hN2, hb2⟩; have hX2 : Blk w2 (g) 29 key.cells := (by first | exact hK.drew.below hb2 hK.lt | exact ((hK.alloc _).drew).below hb2 (hK.alloc _).lt); have ne2 : ¬ w2.heap.size = g := Nat.ne_of_gt hX2.lt; have ne2' : ¬ g = w2.heap.size := Nat.ne_of_lt hX2.lt; obtain ⟨p0, p1, p2, p3, p4, p5, p6, p7⟩ := hX2.c8)
          | (go_at_call 132; refine (HF1.out _ _ (by first | exact hN2 | exact hN2.alloc _)).mono ?_; rintro en w3 ⟨rfl, hb3⟩; have hX3 : Blk w3 (g) 29 key.cells := (by first | exact hX2.below hb3 hX2.lt | exact (hX2.alloc _).below hb3 (hX2.alloc _).lt); have ne3 : ¬ w3.heap.size = g := Nat.ne_of_gt hX3.lt; have ne3' : ¬ g = w3.heap.size := Nat.ne_of_lt hX3.lt; obtain ⟨q0, q1, q2, q3, q4, q5, q6, q7⟩ := hX3.c8; (try (obtain ⟨z0, f0, z1, f1, z2, f2, z3, f3, z4, f4, z5, f5, z6, f6, z7, f7⟩ := Blk.z8 ((((Blk.new wc 29 zero8).drew).below hb2 (Blk.new wc 29 zero8).lt).below hb3 (((Blk.new wc 29 zero8).drew).below hb2 (Blk.new wc 29 zero8).lt).lt))); (try (obtain ⟨z0, f0, z1, f1, z2, f2, z3, f3, z4, f4, z5, f5, z6, f6, z7, f7⟩ := Blk.z8 ((Blk.new w2 29 zero8).below hb3 (Blk.new w2 29 zero8).lt))))))
      all_goals (go_wp2_with fail)
      all_goals go_meet
      · exact wayC hb2 hb3
      · exact wayB hb2 hb3
      · exact wayA hb2 hb3
    case rest =>
      obtain ⟨g', rfl, hg', hK', hb1⟩ := hcut
      have hR2 := hR.below hb1 hR.lt
      have hbw2 := hbW.trans (hb1.mono hbW.size)
      clear hb1 hR hbW hK
      have hltg := hK'.lt
      go_wp2_with (first
        | (refine wpList_load_row rfl 29 _ rfl g' rfl 29 r.cells (0, 0) _ hK' Tryz.underlying29 rfl size_name ?_)
        | (refine wpList_store_blk rfl 29 (.tmp 8) (.tmp 31) rfl (w.heap.size + 1) _ rfl rfl 29 _ hR2 rfl size_name ?s3 ?_))
      case s3 => exact ⟨rfl, rfl, rfl, rfl, rfl, rfl, rfl, rfl⟩
      intro w4 hR4 hg4 hs4
      go_wp2
      have hbw4 : Below w.heap.size w w4 := hbw2.grown hg4 hbw2.size (by rintro j ⟨⟩; omega)
      exact bodyPost_ret (results_cell_row (g := w.heap.size + 1) rfl _ _ _ _ _ _ rfl hR4 Tryz.underlying29 rfl size_name) rfl ⟨rfl, hbw4⟩
end Go.Proofs.YthmecidpjlaonaaGreat
namespace Go.Proofs.YthmecidpjlaonaaGreat
open Go.RowKit

theorem cap2_any (w : World) : Calls Tryz.prog 93 #[.int .i64 2] w fun e w' => e = .returned (.int .i64 1024) ∧ w' = w := by
  go_enter Tryz.func93, Tryz.ntmps93
  go_wp2
  go_ret
  exact ⟨rfl, rfl⟩
theorem verF_len (p m : Nm) (l : List UInt8) (h : ¬ l.length = 370) : verF p m l = false := by unfold verF; simp [h]
theorem verF_leaf (p m : Nm) (l : List UInt8) (h : 1024 ≤ leafN l) : verF p m l = false := by
  unfold verF
  rw [decide_eq_false (show ¬ leafN l < 1024 by omega)]; simp
theorem verF_yes (p m : Nm) (l : List UInt8) (h : l.length = 370) (h2 : leafN l < 1024) : verF p m l = decide (climbF l 186 (leafN l / 32) (climbF l 2 (leafN l % 32) m) = p) := by
  unfold verF
  rw [decide_eq_true h, decide_eq_true h2]; rfl
/-- The call returns a bool, and leaves what was there. -/
def BoolPost (w : World) (b : Bool) (e : Ending) (w' : World) : Prop := e = .returned (.bool b) ∧ Below w.heap.size w w'

set_option maxRecDepth 100000 in
set_option maxHeartbeats 1000000 in
theorem mver_no1 (p m : Nm) (A : Option Addr) (n c : Nat) (w : World) (h : n < 2) :
    Calls Tryz.prog 57 #[p.val, .int .i64 2, m.val, .slice A n c] w (BoolPost w false) := by
  have HL := Lib.hid (fun W => leaf_no A n c W h)
  go_enter Tryz.func57, Tryz.ntmps57
  go_wp2_with ((go_at_call 91; refine (HL.out _).mono ?_; rintro en w' ⟨rfl, rfl⟩))
  go_ret
  exact ⟨rfl, ((Below.refl _ _).alloc (Nat.le_refl _) _).alloc (by simp) _⟩
set_option maxRecDepth 100000 in
set_option maxHeartbeats 1000000 in
theorem mver_no2 (p m : Nm) (A : Option Addr) (c v : Nat) (l : List UInt8) (w : World) (h2 : ((l.length : Int) != 370) = true)
    (hl : ∀ W, Below w.heap.size w W → Calls Tryz.prog 91 #[.slice A l.length c] W fun e w' => e = .returned (.tuple #[.int .i64 (v : Int), .bool true]) ∧ w' = W) :
    Calls Tryz.prog 57 #[p.val, .int .i64 2, m.val, .slice A l.length c] w (BoolPost w false) := by
  have HL := Lib.hid hl; clear hl
  go_enter Tryz.func57, Tryz.ntmps57
  go_wp2_with (first
    | (go_at_call 91; refine (HL.out _ (((Below.refl _ _).alloc (Nat.le_refl _) _).alloc (by simp) _)).mono ?_; rintro en w' ⟨rfl, rfl⟩)
    | (go_at_call 92; refine (size2_any _).mono ?_; rintro en w' ⟨rfl, rfl⟩))
  go_ret
  exact ⟨rfl, ((Below.refl _ _).alloc (Nat.le_refl _) _).alloc (by simp) _⟩
set_option maxRecDepth 100000 in
set_option maxHeartbeats 1000000 in
theorem mver_no3 (p m : Nm) (A : Option Addr) (c v : Nat) (w : World) (h2 : 1024 ≤ v)
    (hl : ∀ W, Below w.heap.size w W → Calls Tryz.prog 91 #[.slice A 370 c] W fun e w' => e = .returned (.tuple #[.int .i64 (v : Int), .bool true]) ∧ w' = W) :
    Calls Tryz.prog 57 #[p.val, .int .i64 2, m.val, .slice A 370 c] w (BoolPost w false) := by
  have HL := Lib.hid hl; clear hl
  have hd : decide ((1024 : Int) ≤ (v : Int)) = true := by simp; omega
  go_enter Tryz.func57, Tryz.ntmps57
  go_wp2_with (first
    | (go_at_call 91; refine (HL.out _ (((Below.refl _ _).alloc (Nat.le_refl _) _).alloc (by simp) _)).mono ?_; rintro en w' ⟨rfl, rfl⟩)
    | (go_at_call 92; refine (size2_any _).mono ?_; rintro en w' ⟨rfl, rfl⟩)
    | (go_at_call 93; refine (cap2_any _).mono ?_; rintro en w' ⟨rfl, rfl⟩))
  go_ret
  exact ⟨rfl, ((Below.refl _ _).alloc (Nat.le_refl _) _).alloc (by simp) _⟩
set_option maxRecDepth 100000 in
set_option maxHeartbeats 1000000 in
theorem mver_yes (p m x y : Nm) (A : Option Addr) (c v : Nat) (w : World) (h2 : v < 1024)
    (hl : ∀ W, Below w.heap.size w W → Calls Tryz.prog 91 #[.slice A 370 c] W fun e w' => e = .returned (.tuple #[.int .i64 (v : Int), .bool true]) ∧ w' = W)
    (hc1 : ∀ W, Below w.heap.size w W → Calls Tryz.prog 94 #[.slice A 370 c, .int .i64 2, .int .i64 ((v : Int) % 32), m.val] W (NmPost W x))
    (hc2 : ∀ W, Below w.heap.size w W → Calls Tryz.prog 94 #[.slice A 370 c, .int .i64 186, .int .i64 ((v : Int) / 32), x.val] W (NmPost W y)) :
    Calls Tryz.prog 57 #[p.val, .int .i64 2, m.val, .slice A 370 c] w (BoolPost w (decide (y = p))) := by
  have HL := Lib.hid hl; clear hl
  have HC1 := Lib.hid hc1; clear hc1
  have HC2 := Lib.hid hc2; clear hc2
  have hd : decide ((1024 : Int) ≤ (v : Int)) = false := by simp; omega
  go_enter Tryz.func57, Tryz.ntmps57
  go_wp2_with (first
    | (go_at_call 91; refine (HL.out _ (((Below.refl _ _).alloc (Nat.le_refl _) _).alloc (by simp) _)).mono ?_; rintro en w' ⟨rfl, rfl⟩)
    | (go_at_call 92; refine (size2_any _).mono ?_; rintro en w' ⟨rfl, rfl⟩)
    | (go_at_call 93; refine (cap2_any _).mono ?_; rintro en w' ⟨rfl, rfl⟩)
    | (refine wpList_load_row rfl 29 (.tmp 6) rfl (w.heap.size + 1) rfl 29 m.cells (0, 0) _ (by have := Blk.new (w.alloc (Obj.cells p.cells 29)) 29 m.cells; simpa using this) Tryz.underlying29 rfl size_name ?_))
  have hP : Blk ((w.alloc (Obj.cells p.cells 29)).alloc (Obj.cells m.cells 29)) w.heap.size 29 p.cells := (Blk.new w _ _).alloc _
  have hbW : Below w.heap.size w ((w.alloc (Obj.cells p.cells 29)).alloc (Obj.cells m.cells 29)) := ((Below.refl _ _).alloc (Nat.le_refl _) _).alloc (by simp) _
  generalize ((w.alloc (Obj.cells p.cells 29)).alloc (Obj.cells m.cells 29)) = W at *
  refine (HC1.out _ hbW).mono ?_
  rintro en w1 ⟨rfl, hb1⟩
  replace hP := hP.below hb1 hP.lt
  replace hbW := hbW.trans (hb1.mono hbW.size)
  clear hb1
  have hltP := hP.lt
  have hle1 := hbW.size
  go_wp2_with (refine wpList_store_blk rfl 29 (.tmp 11) (.tmp 36) rfl w1.heap.size _ rfl rfl 29 _ (Blk.new w1 _ _) rfl size_name ?s1 ?_)
  case s1 => exact ⟨rfl, rfl, rfl, rfl, rfl, rfl, rfl, rfl⟩
  intro w2 hV2 hg2 hs2
  have hb2 : Below w.heap.size w w2 := (hbW.alloc hbW.size _).grown hg2 (by have := hbW.size; simp; omega) (by rintro j ⟨⟩; exact hbW.size)
  have hP2 := (hP.alloc _).kept hg2 (by simp; omega)
  clear hP hbW hg2 hs2
  have hl1 := hb2.size
  go_wp2_with (refine wpList_load_row rfl 29 (.tmp 11) rfl w1.heap.size rfl 29 x.cells (0, 0) _ hV2 Tryz.underlying29 rfl size_name ?_)
  refine (HC2.out _ hb2).mono ?_
  rintro en w3 ⟨rfl, hb3⟩
  have hV3 := hV2.below hb3 hV2.lt
  have hP3 := hP2.below hb3 hP2.lt
  have hbw3 := hb2.trans (hb3.mono hb2.size)
  clear hV2 hP2 hb2 hb3
  go_wp2_with (refine wpList_store_blk rfl 29 (.tmp 11) (.tmp 43) rfl w1.heap.size _ rfl rfl 29 _ hV3 rfl size_name ?s2 ?_)
  case s2 => exact ⟨rfl, rfl, rfl, rfl, rfl, rfl, rfl, rfl⟩
  intro w4 hV4 hg4 hs4
  have hP4 := hP3.kept hg4 (by simp; omega)
  have hbw4 : Below w.heap.size w w4 := hbw3.grown hg4 hbw3.size (by rintro j ⟨⟩; omega)
  clear hV3 hP3 hbw3 hg4 hs4
  have e0 := fun w => eqNm y p w 9998
  go_wp2_with (first
    | (refine wpList_load_row rfl 29 (.tmp 11) rfl w1.heap.size rfl 29 y.cells (0, 0) _ hV4 Tryz.underlying29 rfl size_name ?_)
    | (refine wpList_load_row rfl 29 (.tmp 4) rfl w.heap.size rfl 29 p.cells (0, 0) _ hP4 Tryz.underlying29 rfl size_name ?_))
  go_ret
  exact ⟨rfl, hbw4⟩

theorem mver_any (p m : Nm) (A : Option Addr) (c : Nat) (l : List UInt8) (w : World) (hr : Rd w w.heap.size A (l.map B)) (hlen : l.length ≤ 140737488351232) (hc : l.length ≤ c) (hm : c ≤ maxLen) :
    Calls Tryz.prog 57 #[p.val, .int .i64 2, m.val, .slice A l.length c] w (BoolPost w (verF p m l)) := by
  by_cases h1 : l.length < 2
  · rw [verF_len p m l (by omega)]
    exact mver_no1 p m A l.length c w h1
  · have hl : ∀ W, Below w.heap.size w W → Calls Tryz.prog 91 #[.slice A l.length c] W fun e w' => e = .returned (.tuple #[.int .i64 (leafN l : Int), .bool true]) ∧ w' = W := fun W hW =>
      leaf_yes A c l W ((hr.below hW).more hW.size) hlen hc hm (by omega)
    by_cases h2 : l.length = 370
    · have hcl : ∀ (at_ j : Nat) (x : Nm), at_ + 184 ≤ 370 → j < 32 → ∀ W, Below w.heap.size w W → Calls Tryz.prog 94 #[.slice A l.length c, .int .i64 (at_ : Int), .int .i64 (j : Int), x.val] W (NmPost W (climbF l at_ j x)) := fun at_ j x ha hj W hW =>
        climbed_any A c at_ j l x W ((hr.below hW).more hW.size) (by omega) hc hm (by omega) hj
      by_cases h3 : leafN l < 1024
      · rw [verF_yes p m l h2 h3]
        rw [h2] at hl hcl ⊢
        exact mver_yes p m _ _ A c (leafN l) w h3 hl (hcl 2 (leafN l % 32) m (by omega) (by omega)) (hcl 186 (leafN l / 32) _ (by omega) (by omega))
      · rw [verF_leaf p m l (by omega)]
        rw [h2] at hl ⊢
        exact mver_no3 p m A c (leafN l) w (by omega) hl
    · rw [verF_len p m l h2]
      exact mver_no2 p m A c (leafN l) l w (by rw [bne_iff_ne]; omega) hl
end Go.Proofs.YthmecidpjlaonaaGreat
