/-
  The reference's Verify at two levels returns whether a signature verifies (verF), and changes nothing that was there. Condition: the signature's bytes lie in memory below the call.
-/
import Derived.Test.YthmecidpjlaonaaGreatGVer
namespace Go.Proofs.YthmecidpjlaonaaGreat
open Go.RowKit
attribute [local go_sem ↓] Go.wp_at_zero Go.wp_at_succ

/-- A slice that reads as a list of names. -/
def ListV (w : World) (v : Value) (n : Nat) (l : List Nm) : Prop := ∃ A c, v = .slice A n c ∧ n ≤ c ∧ Rd w w.heap.size A (l.flatMap nmc)
theorem ListV.alloc {w : World} {v : Value} {n : Nat} {l : List Nm} (h : ListV w v n l) (o : Obj) : ListV (w.alloc o) v n l := by
  obtain ⟨A, c, rfl, hc, hr⟩ := h
  exact ⟨A, c, rfl, hc, (hr.alloc (Nat.le_refl _) o).more (by simp)⟩
/-- The call returns such a slice. -/
def ListPost (w : World) (n : Nat) (l : List Nm) (e : Ending) (w' : World) : Prop := ∃ v, e = .returned v ∧ ListV w' v n l ∧ Below w.heap.size w w'
theorem listPost_of {w : World} {n : Nat} {l : List Nm} {e : Ending} {w' : World} (hn : 0 < n) (h : RowPost w 29 8 n (l.flatMap nmc) e w') : ListPost w n l e w' := by
  obtain ⟨A, c, rfl, hown, hb⟩ := h
  obtain ⟨A', c', hv, hc, _⟩ := own_cap hown hn
  injection hv with h1 h2 h3
  subst h3
  exact ⟨_, rfl, ⟨A, c, rfl, hc, Rd.of_own hown⟩, hb⟩

theorem rcap2_any (w : World) : Calls Tryz.prog 98 #[.int .i64 2] w fun e w' => e = .returned (.int .i64 1024) ∧ w' = w := by
  go_enter Tryz.func98, Tryz.ntmps98
  go_wp2
  go_ret
  exact ⟨rfl, rfl⟩
theorem rsize2_any (w : World) : Calls Tryz.prog 97 #[.int .i64 2] w fun e w' => e = .returned (.int .i64 370) ∧ w' = w := by
  go_enter Tryz.func97, Tryz.ntmps97
  go_wp2
  go_ret
  exact ⟨rfl, rfl⟩
set_option maxRecDepth 100000 in
set_option maxHeartbeats 1000000 in
theorem rver_no1 (p m : Nm) (A : Option Addr) (n c : Nat) (w : World) (h2 : ((n : Int) != 370) = true) :
    Calls Tryz.prog 59 #[p.val, .int .i64 2, m.val, .slice A n c] w (BoolPost w false) := by
  go_enter Tryz.func59, Tryz.ntmps59
  go_wp2_with ((go_at_call 97; refine (rsize2_any _).mono ?_; rintro en w' ⟨rfl, rfl⟩))
  go_ret
  exact ⟨rfl, ((Below.refl _ _).alloc (Nat.le_refl _) _).alloc (by simp) _⟩
theorem or_i64 (a b : UInt8) : bits .or .i64 ((a.toNat : Int) * 256) (b.toNat : Int) = (a.toNat : Int) * 256 + (b.toNat : Int) := by
  have ha := a.toNat_lt
  have hb := b.toNat_lt
  have e : (a.toNat : Int) * 256 = ((2 ^ 8 * a.toNat : Nat) : Int) := by omega
  rw [e]
  show IntKind.i64.wrap ((BitVec.ofInt 64 ((2 ^ 8 * a.toNat : Nat) : Int) ||| BitVec.ofInt 64 (b.toNat : Int)).toNat : Int) = _
  rw [BitVec.toNat_or, BitVec.ofInt_natCast, BitVec.ofInt_natCast, BitVec.toNat_ofNat, BitVec.toNat_ofNat, Nat.mod_eq_of_lt (by omega), Nat.mod_eq_of_lt (by omega), ← Nat.two_pow_add_eq_or_of_lt (by omega : b.toNat < 2 ^ 8), IntKind.wrap_i64]
  omega

set_option maxRecDepth 100000 in
set_option maxHeartbeats 1000000 in
theorem rver_no2 (p m : Nm) (b o c : Nat) (a0 a1 : UInt8) (w : World) (hb : b < w.heap.size) (c0 : w.cell? ⟨b, o, none⟩ = some (B a0)) (c1 : w.cell? ⟨b, o + 1, none⟩ = some (B a1)) (hv : 1024 ≤ a0.toNat * 256 + a1.toNat) :
    Calls Tryz.prog 59 #[p.val, .int .i64 2, m.val, .slice (some ⟨b, o, none⟩) 370 c] w (BoolPost w false) := by
  have h0 := a0.toNat_lt
  have h1 := a1.toNat_lt
  have hor := or_i64 a0 a1
  have hw1 : IntKind.i64.wrap (a0.toNat : Int) = (a0.toNat : Int) := IntWalk.i64_in _ (by omega)
  have hw2 : IntKind.i64.wrap (a1.toNat : Int) = (a1.toNat : Int) := IntWalk.i64_in _ (by omega)
  have hw3 : IntKind.i64.wrap ((a0.toNat : Int) * 256) = (a0.toNat : Int) * 256 := IntWalk.i64_in _ (by omega)
  have hd : decide ((1024 : Int) ≤ (a0.toNat : Int) * 256 + (a1.toNat : Int)) = true := by simp; omega
  have n1 : ¬ b = w.heap.size := by omega
  have n2 : ¬ b = w.heap.size + 1 := by omega
  have d1 : ((w.alloc (Obj.cells p.cells 29)).alloc (Obj.cells m.cells 29)).cell? ⟨b, o, none⟩ = some (B a0) := by
    rw [World.cell?_alloc_lt _ _ _ (by simp; omega), World.cell?_alloc_lt _ _ _ hb]; exact c0
  have d2 : ((w.alloc (Obj.cells p.cells 29)).alloc (Obj.cells m.cells 29)).cell? ⟨b, o + 1, none⟩ = some (B a1) := by
    rw [World.cell?_alloc_lt _ _ _ (by simp; omega), World.cell?_alloc_lt _ _ _ hb]; exact c1
  go_enter Tryz.func59, Tryz.ntmps59
  go_wp2_with ((go_at_call 97; refine (rsize2_any _).mono ?_; rintro en w' ⟨rfl, rfl⟩))
  go_quiet (fail)
  go_wp2_with ((go_at_call 98; refine (rcap2_any _).mono ?_; rintro en w' ⟨rfl, rfl⟩))
  go_ret
  exact ⟨rfl, below_drewN (((Below.refl _ _).alloc (Nat.le_refl _) _).alloc (by simp) _) _⟩

set_option maxRecDepth 100000 in
set_option maxHeartbeats 8000000 in
theorem rver_yes (p m k1 x k2 y : Nm) (n1 n2 n3 n4 : List Nm) (b o c : Nat) (a0 a1 : UInt8) (w : World) (hb : b < w.heap.size) (c0 : w.cell? ⟨b, o, none⟩ = some (B a0)) (c1 : w.cell? ⟨b, o + 1, none⟩ = some (B a1)) (v : Nat) (hve : v = a0.toNat * 256 + a1.toNat) (hv : v < 1024)
    (hl1 : ∀ W, Below w.heap.size w W → Calls Tryz.prog 100 #[.slice (some ⟨b, o, none⟩) 370 c, .int .i64 2, .int .i64 18] W (ListPost W 18 n1))
    (hr1 : ∀ W v, ListV W v 18 n1 → Calls Tryz.prog 99 #[m.val, v] W fun e w' => e = .returned (.tuple #[k1.val, .bool true]) ∧ Below W.heap.size W w')
    (hl2 : ∀ W, Below w.heap.size w W → Calls Tryz.prog 100 #[.slice (some ⟨b, o, none⟩) 370 c, .int .i64 146, .int .i64 5] W (ListPost W 5 n2))
    (hf1 : ∀ W u, ListV W u 5 n2 → Calls Tryz.prog 101 #[k1.val, .int .i64 ((v : Int) % 32), .int .i64 32, u] W fun e w' => e = .returned (.tuple #[x.val, .bool true]) ∧ Below W.heap.size W w')
    (hl3 : ∀ W, Below w.heap.size w W → Calls Tryz.prog 100 #[.slice (some ⟨b, o, none⟩) 370 c, .int .i64 186, .int .i64 18] W (ListPost W 18 n3))
    (hr2 : ∀ W v, ListV W v 18 n3 → Calls Tryz.prog 99 #[x.val, v] W fun e w' => e = .returned (.tuple #[k2.val, .bool true]) ∧ Below W.heap.size W w')
    (hl4 : ∀ W, Below w.heap.size w W → Calls Tryz.prog 100 #[.slice (some ⟨b, o, none⟩) 370 c, .int .i64 330, .int .i64 5] W (ListPost W 5 n4))
    (hf2 : ∀ W u, ListV W u 5 n4 → Calls Tryz.prog 101 #[k2.val, .int .i64 ((v : Int) / 32), .int .i64 32, u] W fun e w' => e = .returned (.tuple #[y.val, .bool true]) ∧ Below W.heap.size W w') :
    Calls Tryz.prog 59 #[p.val, .int .i64 2, m.val, .slice (some ⟨b, o, none⟩) 370 c] w (BoolPost w (decide (y = p))) := by
  have HL1 := Lib.hid hl1; clear hl1
  have HR1 := Lib.hid hr1; clear hr1
  have HL2 := Lib.hid hl2; clear hl2
  have HF1 := Lib.hid hf1; clear hf1
  have HL3 := Lib.hid hl3; clear hl3
  have HR2 := Lib.hid hr2; clear hr2
  have HL4 := Lib.hid hl4; clear hl4
  have HF2 := Lib.hid hf2; clear hf2
  have h0 := a0.toNat_lt
  have h1 := a1.toNat_lt
  have hor : bits .or .i64 ((a0.toNat : Int) * 256) (a1.toNat : Int) = (v : Int) := by rw [or_i64 a0 a1, hve]; omega
  have hw1 : IntKind.i64.wrap (a0.toNat : Int) = (a0.toNat : Int) := IntWalk.i64_in _ (by omega)
  have hw2 : IntKind.i64.wrap (a1.toNat : Int) = (a1.toNat : Int) := IntWalk.i64_in _ (by omega)
  have hw3 : IntKind.i64.wrap ((a0.toNat : Int) * 256) = (a0.toNat : Int) * 256 := IntWalk.i64_in _ (by omega)
  have hd : decide ((1024 : Int) ≤ (v : Int)) = false := by simp; omega
  clear hve
  have d1 : ((w.alloc (Obj.cells p.cells 29)).alloc (Obj.cells m.cells 29)).cell? ⟨b, o, none⟩ = some (B a0) := by
    rw [World.cell?_alloc_lt _ _ _ (by simp; omega), World.cell?_alloc_lt _ _ _ hb]; exact c0
  have d2 : ((w.alloc (Obj.cells p.cells 29)).alloc (Obj.cells m.cells 29)).cell? ⟨b, o + 1, none⟩ = some (B a1) := by
    rw [World.cell?_alloc_lt _ _ _ (by simp; omega), World.cell?_alloc_lt _ _ _ hb]; exact c1
  go_enter Tryz.func59, Tryz.ntmps59
  go_wp2_with ((go_at_call 97; refine (rsize2_any _).mono ?_; rintro en w' ⟨rfl, rfl⟩))
  go_quiet (fail)
  clear hw1 hw2 hw3 hor
  have hX : Blk ((w.alloc (Obj.cells p.cells 29)).alloc (Obj.cells m.cells 29)) (w.heap.size + 1) 29 m.cells := by
    have := Blk.new (w.alloc (Obj.cells p.cells 29)) 29 m.cells
    simpa using this
  have hP : Blk ((w.alloc (Obj.cells p.cells 29)).alloc (Obj.cells m.cells 29)) w.heap.size 29 p.cells := (Blk.new w _ _).alloc _
  have hbW : Below w.heap.size w ((w.alloc (Obj.cells p.cells 29)).alloc (Obj.cells m.cells 29)) := ((Below.refl _ _).alloc (Nat.le_refl _) _).alloc (by simp) _
  go_upto_region 6 with ((go_at_call 98; refine (rcap2_any _).mono ?_; rintro en w' ⟨rfl, rfl⟩))
  replace hX := hX.drewN nq
  replace hP := hP.drewN nq
  replace hbW := below_drewN hbW nq
  clear d1 d2 c0 c1
  generalize (((w.alloc (Obj.cells p.cells 29)).alloc (Obj.cells m.cells 29)).drewN nq) = W at *
  have ht1 : (v : Int).tmod 32 = (v : Int) % 32 := Int.tmod_eq_emod_of_nonneg (by omega)
  have ht2 : (v : Int).tdiv 32 = (v : Int) / 32 := Int.tdiv_eq_ediv_of_nonneg (by omega)
  have hw4 : IntKind.i64.wrap ((v : Int) % 32) = (v : Int) % 32 := IntWalk.i64_in _ (by omega)
  have hw5 : IntKind.i64.wrap ((v : Int) / 32) = (v : Int) / 32 := IntWalk.i64_in _ (by omega)
  go_cut [10] (fun s wx => CutP W k1 s wx)
  case first =>
    have x0 : W.cell? ⟨(w.heap.size + 1), 0, none⟩ = some (B m.b0) := hX.cell 0
    have x1 : W.cell? ⟨(w.heap.size + 1), 1, none⟩ = some (B m.b1) := hX.cell 1
    have x2 : W.cell? ⟨(w.heap.size + 1), 2, none⟩ = some (B m.b2) := hX.cell 2
    have x3 : W.cell? ⟨(w.heap.size + 1), 3, none⟩ = some (B m.b3) := hX.cell 3
    have x4 : W.cell? ⟨(w.heap.size + 1), 4, none⟩ = some (B m.b4) := hX.cell 4
    have x5 : W.cell? ⟨(w.heap.size + 1), 5, none⟩ = some (B m.b5) := hX.cell 5
    have x6 : W.cell? ⟨(w.heap.size + 1), 6, none⟩ = some (B m.b6) := hX.cell 6
    have x7 : W.cell? ⟨(w.heap.size + 1), 7, none⟩ = some (B m.b7) := hX.cell 7
    have hlt0 := hX.lt
    have e0 : ¬ W.heap.size = (w.heap.size + 1) := Nat.ne_of_gt hX.lt
    have e1 : ¬ (w.heap.size + 1) = W.heap.size := Nat.ne_of_lt hX.lt
    go_region_held3 (fun w' => w'.cell? ⟨(w.heap.size + 1), 0, none⟩ = some (B m.b0) ∧ w'.cell? ⟨(w.heap.size + 1), 1, none⟩ = some (B m.b1) ∧ w'.cell? ⟨(w.heap.size + 1), 2, none⟩ = some (B m.b2) ∧ w'.cell? ⟨(w.heap.size + 1), 3, none⟩ = some (B m.b3) ∧ w'.cell? ⟨(w.heap.size + 1), 4, none⟩ = some (B m.b4) ∧ w'.cell? ⟨(w.heap.size + 1), 5, none⟩ = some (B m.b5) ∧ w'.cell? ⟨(w.heap.size + 1), 6, none⟩ = some (B m.b6) ∧ w'.cell? ⟨(w.heap.size + 1), 7, none⟩ = some (B m.b7)) (go_keep)
      ((first
        | (go_at_call 100; refine (HL1.out _ (by first | exact hbW.drew | exact (hbW.alloc hbW.size _).drew)).mono ?_; rintro en w2 ⟨v2, rfl, hN2, hb2⟩; have hX2 : Blk w2 ((w.heap.size + 1)) 29 m.cells := (by first | exact hX.drew.below hb2 hX.lt | exact ((hX.alloc _).drew).below hb2 (hX.alloc _).lt); have ne2 : ¬ w2.heap.size = (w.heap.size + 1) := Nat.ne_of_gt hX2.lt; have ne2' : ¬ (w.heap.size + 1) = w2.heap.size := Nat.ne_of_lt hX2.lt; obtain ⟨p0, p1, p2, p3, p4, p5, p6, p7⟩ := hX2.c8)
        | (go_at_call 99; refine (HR1.out _ _ (by first | exact hN2 | exact hN2.alloc _)).mono ?_; rintro en w3 ⟨rfl, hb3⟩; have hX3 : Blk w3 ((w.heap.size + 1)) 29 m.cells := (by first | exact hX2.below hb3 hX2.lt | exact (hX2.alloc _).below hb3 (hX2.alloc _).lt); have ne3 : ¬ w3.heap.size = (w.heap.size + 1) := Nat.ne_of_gt hX3.lt; have ne3' : ¬ (w.heap.size + 1) = w3.heap.size := Nat.ne_of_lt hX3.lt; obtain ⟨q0, q1, q2, q3, q4, q5, q6, q7⟩ := hX3.c8; (try (obtain ⟨z0, f0, z1, f1, z2, f2, z3, f3, z4, f4, z5, f5, z6, f6, z7, f7⟩ := Blk.z8 ((((Blk.new W 29 zero8).drew).below hb2 (Blk.new W 29 zero8).lt).below hb3 (((Blk.new W 29 zero8).drew).below hb2 (Blk.new W 29 zero8).lt).lt))); (try (obtain ⟨z0, f0, z1, f1, z2, f2, z3, f3, z4, f4, z5, f5, z6, f6, z7, f7⟩ := Blk.z8 ((Blk.new w2 29 zero8).below hb3 (Blk.new w2 29 zero8).lt))))))
    all_goals (go_wp2_with fail)
    all_goals go_meet
    · exact wayC hb2 hb3
    · exact wayB hb2 hb3
    · exact wayA hb2 hb3
  case rest =>
    obtain ⟨g1, rfl, hg1, hK1, hb1⟩ := hcut
    replace hP := hP.below hb1 hP.lt
    replace hbW := hbW.trans (hb1.mono hbW.size)
    clear hb1 hX hg1
    obtain ⟨W1, hW1⟩ : ∃ W1 : World, W1 = wc := ⟨_, rfl⟩
    subst hW1
    go_upto_region 7 with fail
    go_cut [12] (fun s wx => CutP W1 x s wx)
    case first =>
      have x0 : W1.cell? ⟨g1, 0, none⟩ = some (B k1.b0) := hK1.cell 0
      have x1 : W1.cell? ⟨g1, 1, none⟩ = some (B k1.b1) := hK1.cell 1
      have x2 : W1.cell? ⟨g1, 2, none⟩ = some (B k1.b2) := hK1.cell 2
      have x3 : W1.cell? ⟨g1, 3, none⟩ = some (B k1.b3) := hK1.cell 3
      have x4 : W1.cell? ⟨g1, 4, none⟩ = some (B k1.b4) := hK1.cell 4
      have x5 : W1.cell? ⟨g1, 5, none⟩ = some (B k1.b5) := hK1.cell 5
      have x6 : W1.cell? ⟨g1, 6, none⟩ = some (B k1.b6) := hK1.cell 6
      have x7 : W1.cell? ⟨g1, 7, none⟩ = some (B k1.b7) := hK1.cell 7
      have hlt0 := hK1.lt
      have e0 : ¬ W1.heap.size = g1 := Nat.ne_of_gt hK1.lt
      have e1 : ¬ g1 = W1.heap.size := Nat.ne_of_lt hK1.lt
      go_region_held3 (fun w' => w'.cell? ⟨g1, 0, none⟩ = some (B k1.b0) ∧ w'.cell? ⟨g1, 1, none⟩ = some (B k1.b1) ∧ w'.cell? ⟨g1, 2, none⟩ = some (B k1.b2) ∧ w'.cell? ⟨g1, 3, none⟩ = some (B k1.b3) ∧ w'.cell? ⟨g1, 4, none⟩ = some (B k1.b4) ∧ w'.cell? ⟨g1, 5, none⟩ = some (B k1.b5) ∧ w'.cell? ⟨g1, 6, none⟩ = some (B k1.b6) ∧ w'.cell? ⟨g1, 7, none⟩ = some (B k1.b7)) (go_keep)
        ((first
          | (go_at_call 100; refine (HL2.out _ (by first | exact hbW.drew | exact (hbW.alloc hbW.size _).drew)).mono ?_; rintro en w2 ⟨v2, rfl, hN2, hb2⟩; have hX2 : Blk w2 (g1) 29 k1.cells := (by first | exact hK1.drew.below hb2 hK1.lt | exact ((hK1.alloc _).drew).below hb2 (hK1.alloc _).lt); have ne2 : ¬ w2.heap.size = g1 := Nat.ne_of_gt hX2.lt; have ne2' : ¬ g1 = w2.heap.size := Nat.ne_of_lt hX2.lt; obtain ⟨p0, p1, p2, p3, p4, p5, p6, p7⟩ := hX2.c8)
          | (go_at_call 101; refine (HF1.out _ _ (by first | exact hN2 | exact hN2.alloc _)).mono ?_; rintro en w3 ⟨rfl, hb3⟩; have hX3 : Blk w3 (g1) 29 k1.cells := (by first | exact hX2.below hb3 hX2.lt | exact (hX2.alloc _).below hb3 (hX2.alloc _).lt); have ne3 : ¬ w3.heap.size = g1 := Nat.ne_of_gt hX3.lt; have ne3' : ¬ g1 = w3.heap.size := Nat.ne_of_lt hX3.lt; obtain ⟨q0, q1, q2, q3, q4, q5, q6, q7⟩ := hX3.c8; (try (obtain ⟨z0, f0, z1, f1, z2, f2, z3, f3, z4, f4, z5, f5, z6, f6, z7, f7⟩ := Blk.z8 ((((Blk.new W1 29 zero8).drew).below hb2 (Blk.new W1 29 zero8).lt).below hb3 (((Blk.new W1 29 zero8).drew).below hb2 (Blk.new W1 29 zero8).lt).lt))); (try (obtain ⟨z0, f0, z1, f1, z2, f2, z3, f3, z4, f4, z5, f5, z6, f6, z7, f7⟩ := Blk.z8 ((Blk.new w2 29 zero8).below hb3 (Blk.new w2 29 zero8).lt))))))
      all_goals (go_wp2_with fail)
      all_goals go_meet
      · exact wayC hb2 hb3
      · exact wayB hb2 hb3
      · exact wayA hb2 hb3
    case rest =>
      obtain ⟨g2, rfl, hg2, hK2, hb1⟩ := hcut
      replace hP := hP.below hb1 hP.lt
      replace hbW := hbW.trans (hb1.mono hbW.size)
      clear hb1 hK1 hg2
      obtain ⟨W2, hW2⟩ : ∃ W2 : World, W2 = wc := ⟨_, rfl⟩
      subst hW2
      go_upto_region 10 with fail
      go_cut [14] (fun s wx => CutP W2 k2 s wx)
      case first =>
        have x0 : W2.cell? ⟨g2, 0, none⟩ = some (B x.b0) := hK2.cell 0
        have x1 : W2.cell? ⟨g2, 1, none⟩ = some (B x.b1) := hK2.cell 1
        have x2 : W2.cell? ⟨g2, 2, none⟩ = some (B x.b2) := hK2.cell 2
        have x3 : W2.cell? ⟨g2, 3, none⟩ = some (B x.b3) := hK2.cell 3
        have x4 : W2.cell? ⟨g2, 4, none⟩ = some (B x.b4) := hK2.cell 4
        have x5 : W2.cell? ⟨g2, 5, none⟩ = some (B x.b5) := hK2.cell 5
        have x6 : W2.cell? ⟨g2, 6, none⟩ = some (B x.b6) := hK2.cell 6
        have x7 : W2.cell? ⟨g2, 7, none⟩ = some (B x.b7) := hK2.cell 7
        have hlt0 := hK2.lt
        have e0 : ¬ W2.heap.size = g2 := Nat.ne_of_gt hK2.lt
        have e1 : ¬ g2 = W2.heap.size := Nat.ne_of_lt hK2.lt
        go_region_held3 (fun w' => w'.cell? ⟨g2, 0, none⟩ = some (B x.b0) ∧ w'.cell? ⟨g2, 1, none⟩ = some (B x.b1) ∧ w'.cell? ⟨g2, 2, none⟩ = some (B x.b2) ∧ w'.cell? ⟨g2, 3, none⟩ = some (B x.b3) ∧ w'.cell? ⟨g2, 4, none⟩ = some (B x.b4) ∧ w'.cell? ⟨g2, 5, none⟩ = some (B x.b5) ∧ w'.cell? ⟨g2, 6, none⟩ = some (B x.b6) ∧ w'.cell? ⟨g2, 7, none⟩ = some (B x.b7)) (go_keep)
          ((first
            | (go_at_call 100; refine (HL3.out _ (by first | exact hbW.drew | exact (hbW.alloc hbW.size _).drew)).mono ?_; rintro en w2 ⟨v2, rfl, hN2, hb2⟩; have hX2 : Blk w2 (g2) 29 x.cells := (by first | exact hK2.drew.below hb2 hK2.lt | exact ((hK2.alloc _).drew).below hb2 (hK2.alloc _).lt); have ne2 : ¬ w2.heap.size = g2 := Nat.ne_of_gt hX2.lt; have ne2' : ¬ g2 = w2.heap.size := Nat.ne_of_lt hX2.lt; obtain ⟨p0, p1, p2, p3, p4, p5, p6, p7⟩ := hX2.c8)
            | (go_at_call 99; refine (HR2.out _ _ (by first | exact hN2 | exact hN2.alloc _)).mono ?_; rintro en w3 ⟨rfl, hb3⟩; have hX3 : Blk w3 (g2) 29 x.cells := (by first | exact hX2.below hb3 hX2.lt | exact (hX2.alloc _).below hb3 (hX2.alloc _).lt); have ne3 : ¬ w3.heap.size = g2 := Nat.ne_of_gt hX3.lt; have ne3' : ¬ g2 = w3.heap.size := Nat.ne_of_lt hX3.lt; obtain ⟨q0, q1, q2, q3, q4, q5, q6, q7⟩ := hX3.c8; (try (obtain ⟨z0, f0, z1, f1, z2, f2, z3, f3, z4, f4, z5, f5, z6, f6, z7, f7⟩ := Blk.z8 ((((Blk.new W2 29 zero8).drew).below hb2 (Blk.new W2 29 zero8).lt).below hb3 (((Blk.new W2 29 zero8).drew).below hb2 (Blk.new W2 29 zero8).lt).lt))); (try (obtain ⟨z0, f0, z1, f1, z2, f2, z3, f3, z4, f4, z5, f5, z6, f6, z7, f7⟩ := Blk.z8 ((Blk.new w2 29 zero8).below hb3 (Blk.new w2 29 zero8).lt))))))
        all_goals (go_wp2_with fail)
        all_goals go_meet
        · exact wayC hb2 hb3
        · exact wayB hb2 hb3
        · exact wayA hb2 hb3
      case rest =>
        obtain ⟨g3, rfl, hg3, hK3, hb1⟩ := hcut
        replace hP := hP.below hb1 hP.lt
        replace hbW := hbW.trans (hb1.mono hbW.size)
        clear hb1 hK2 hg3
        obtain ⟨W3, hW3⟩ : ∃ W3 : World, W3 = wc := ⟨_, rfl⟩
        subst hW3
        go_upto_region 11 with fail
        go_cut [16] (fun s wx => CutP W3 y s wx)
        case first =>
          have x0 : W3.cell? ⟨g3, 0, none⟩ = some (B k2.b0) := hK3.cell 0
          have x1 : W3.cell? ⟨g3, 1, none⟩ = some (B k2.b1) := hK3.cell 1
          have x2 : W3.cell? ⟨g3, 2, none⟩ = some (B k2.b2) := hK3.cell 2
          have x3 : W3.cell? ⟨g3, 3, none⟩ = some (B k2.b3) := hK3.cell 3
          have x4 : W3.cell? ⟨g3, 4, none⟩ = some (B k2.b4) := hK3.cell 4
          have x5 : W3.cell? ⟨g3, 5, none⟩ = some (B k2.b5) := hK3.cell 5
          have x6 : W3.cell? ⟨g3, 6, none⟩ = some (B k2.b6) := hK3.cell 6
          have x7 : W3.cell? ⟨g3, 7, none⟩ = some (B k2.b7) := hK3.cell 7
          have hlt0 := hK3.lt
          have e0 : ¬ W3.heap.size = g3 := Nat.ne_of_gt hK3.lt
          have e1 : ¬ g3 = W3.heap.size := Nat.ne_of_lt hK3.lt
          go_region_held3 (fun w' => w'.cell? ⟨g3, 0, none⟩ = some (B k2.b0) ∧ w'.cell? ⟨g3, 1, none⟩ = some (B k2.b1) ∧ w'.cell? ⟨g3, 2, none⟩ = some (B k2.b2) ∧ w'.cell? ⟨g3, 3, none⟩ = some (B k2.b3) ∧ w'.cell? ⟨g3, 4, none⟩ = some (B k2.b4) ∧ w'.cell? ⟨g3, 5, none⟩ = some (B k2.b5) ∧ w'.cell? ⟨g3, 6, none⟩ = some (B k2.b6) ∧ w'.cell? ⟨g3, 7, none⟩ = some (B k2.b7)) (go_keep)
            ((first
              | (go_at_call 100; refine (HL4.out _ (by first | exact hbW.drew | exact (hbW.alloc hbW.size _).drew)).mono ?_; rintro en w2 ⟨v2, rfl, hN2, hb2⟩; have hX2 : Blk w2 (g3) 29 k2.cells := (by first | exact hK3.drew.below hb2 hK3.lt | exact ((hK3.alloc _).drew).below hb2 (hK3.alloc _).lt); have ne2 : ¬ w2.heap.size = g3 := Nat.ne_of_gt hX2.lt; have ne2' : ¬ g3 = w2.heap.size := Nat.ne_of_lt hX2.lt; obtain ⟨p0, p1, p2, p3, p4, p5, p6, p7⟩ := hX2.c8)
              | (go_at_call 101; refine (HF2.out _ _ (by first | exact hN2 | exact hN2.alloc _)).mono ?_; rintro en w3 ⟨rfl, hb3⟩; have hX3 : Blk w3 (g3) 29 k2.cells := (by first | exact hX2.below hb3 hX2.lt | exact (hX2.alloc _).below hb3 (hX2.alloc _).lt); have ne3 : ¬ w3.heap.size = g3 := Nat.ne_of_gt hX3.lt; have ne3' : ¬ g3 = w3.heap.size := Nat.ne_of_lt hX3.lt; obtain ⟨q0, q1, q2, q3, q4, q5, q6, q7⟩ := hX3.c8; (try (obtain ⟨z0, f0, z1, f1, z2, f2, z3, f3, z4, f4, z5, f5, z6, f6, z7, f7⟩ := Blk.z8 ((((Blk.new W3 29 zero8).drew).below hb2 (Blk.new W3 29 zero8).lt).below hb3 (((Blk.new W3 29 zero8).drew).below hb2 (Blk.new W3 29 zero8).lt).lt))); (try (obtain ⟨z0, f0, z1, f1, z2, f2, z3, f3, z4, f4, z5, f5, z6, f6, z7, f7⟩ := Blk.z8 ((Blk.new w2 29 zero8).below hb3 (Blk.new w2 29 zero8).lt))))))
          all_goals (go_wp2_with fail)
          all_goals go_meet
          · exact wayC hb2 hb3
          · exact wayB hb2 hb3
          · exact wayA hb2 hb3
        case rest =>
          obtain ⟨g4, rfl, hg4, hK4, hb1⟩ := hcut
          replace hP := hP.below hb1 hP.lt
          replace hbW := hbW.trans (hb1.mono hbW.size)
          clear hb1 hK3 hg4
          have e0 := fun w => eqNm y p w 9998
          go_wp2_with (first
            | (refine wpList_load_row rfl 29 (.tmp 16) rfl g4 rfl 29 y.cells (0, 0) _ hK4 Tryz.underlying29 rfl size_name ?_)
            | (refine wpList_load_row rfl 29 (.tmp 4) rfl w.heap.size rfl 29 p.cells (0, 0) _ hP Tryz.underlying29 rfl size_name ?_))
          go_ret
          exact ⟨rfl, hbW⟩

theorem rver_any (p m : Nm) (A : Option Addr) (c : Nat) (l : List UInt8) (w : World) (hr : Rd w w.heap.size A (l.map B)) :
    Calls Tryz.prog 59 #[p.val, .int .i64 2, m.val, .slice A l.length c] w (BoolPost w (verF p m l)) := by
  by_cases h2 : l.length = 370
  · obtain ⟨b, o, rfl, hb, hcell⟩ := hr.cells (by intro e; rw [List.map_eq_nil_iff] at e; subst e; simp at h2)
    have c0 : w.cell? ⟨b, o, none⟩ = some (B (l.getD 0 0)) := hcell 0 _ (by rw [List.getElem?_map, getD_some 0 (by omega)]; rfl)
    have c1 : w.cell? ⟨b, o + 1, none⟩ = some (B (l.getD 1 0)) := hcell 1 _ (by rw [List.getElem?_map, getD_some 0 (by omega)]; rfl)
    have hl : ∀ (at_ n : Nat), 0 < n → n ≤ 32 → at_ + 8 * n ≤ 370 → ∀ W, Below w.heap.size w W → Calls Tryz.prog 100 #[.slice (some ⟨b, o, none⟩) l.length c, .int .i64 (at_ : Int), .int .i64 (n : Int)] W (ListPost W n (namesF l at_ n)) := fun at_ n h0 hn ha W hW =>
      (rlist_any (some ⟨b, o, none⟩) c at_ n l W ((hr.below hW).more hW.size) (by omega) hn (by omega)).mono fun _ _ h => listPost_of h0 h
    have hrc : ∀ (m : Nm) (ns : List Nm), ns.length = 18 → ∀ W v, ListV W v 18 ns → Calls Tryz.prog 99 #[m.val, v] W fun e w' => e = .returned (.tuple #[(recF m ns).val, .bool true]) ∧ Below W.heap.size W w' := fun m ns hns W v hv => by
      obtain ⟨A, c, rfl, _, hA⟩ := hv
      exact rrecover_any m ns A c W hA hns
    have hfo : ∀ (k : Nm) (ns : List Nm) (j : Nat), ns.length = 5 → j < 32 → ∀ W u, ListV W u 5 ns → Calls Tryz.prog 101 #[k.val, .int .i64 (j : Int), .int .i64 32, u] W fun e w' => e = .returned (.tuple #[(followF k 5 j ns).val, .bool true]) ∧ Below W.heap.size W w' := fun k ns j hns hj W u hu => by
      obtain ⟨A, c', rfl, hc', hA⟩ := hu
      obtain ⟨b', o', rfl, hb', _⟩ := hA.name (getD_some Nm.zero (l := ns) (k := 0) (by omega))
      exact rfollow_any k _ j c' b' o' W hj fun W2 hW2 => follow_any k c' b' o' ns 5 j 32 W2 rfl (by omega) (by omega) hc' hj (Nat.lt_of_lt_of_le hb' hW2.size) ((pathAt_of_rd hA).below hb' hW2)
    rw [h2] at hl ⊢
    by_cases h3 : leafN l < 1024
    · rw [verF_yes p m l h2 h3]
      exact rver_yes p m _ _ _ _ _ _ _ _ b o c _ _ w hb c0 c1 (leafN l) rfl h3 (hl 2 18 (by omega) (by omega) (by omega)) (hrc m _ (namesF_len _ _ _)) (hl 146 5 (by omega) (by omega) (by omega)) (hfo _ _ (leafN l % 32) (namesF_len _ _ _) (by omega))
        (hl 186 18 (by omega) (by omega) (by omega)) (hrc _ _ (namesF_len _ _ _)) (hl 330 5 (by omega) (by omega) (by omega)) (hfo _ _ (leafN l / 32) (namesF_len _ _ _) (by omega))
    · rw [verF_leaf p m l (by omega)]
      exact rver_no2 p m b o c _ _ w hb c0 c1 (by unfold leafN at h3; omega)
  · rw [verF_len p m l h2]
    exact rver_no1 p m A l.length c w (by rw [bne_iff_ne]; omega)
end Go.Proofs.YthmecidpjlaonaaGreat
