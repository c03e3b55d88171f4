/-
  vote.Decode and the reference's Decode return the vote that 23 bytes spell, or an error (decVote), and change nothing that was there. Condition: the bytes lie in memory below the call.
-/
import Derived.Test.YthmecidpjlaonaaGLess
namespace Go.Proofs.Ythmecidpjlaonaa
open Go.RowKit
attribute [local go_sem ↓] Go.wp_at_zero Go.wp_at_succ loadNm loadVt loadSg loadEv
attribute [local go_sem] runNm runVt runSg runEv pickRow_some rowAt_drew rowAt_drewN

/-- The call returns a vote and an error number. -/
def VDecPost (w : World) (v : Vt) (n : Int) (e : Ending) (w' : World) : Prop := e = .returned (.tuple #[v.val, .int .i64 n]) ∧ Below w.heap.size w w'
abbrev zeroVc : Array Value := #[.int .i64 0, .int .i64 0, .int .i64 0, .int .i64 0, .int .i64 0, .int .i64 0, .int .u8 0, .int .u8 0, .int .u8 0, .int .u8 0, .int .u8 0, .int .u8 0, .int .u8 0, .int .u8 0, .int .u8 0, .int .u8 0, .int .u8 0, .int .u8 0, .int .u8 0, .int .u8 0, .int .u8 0, .int .u8 0]
theorem one_vt {u : Value} (v : Vt) (h : u ∈ v.cells.toList) : u.oneCell' = true := by
  simp at h
  rcases h with rfl | rfl | rfl | rfl | rfl | rfl | rfl | rfl | rfl | rfl | rfl | rfl | rfl | rfl | rfl | rfl | rfl | rfl | rfl | rfl | rfl | rfl <;> rfl
theorem splice_parent (v : Vt) (p : Nm) : (splice v.cells.toList 6 (nmc p)).toArray = ({ v with parent := p } : Vt).cells := rfl
theorem splice_value (v : Vt) (p : Nm) : (splice v.cells.toList 14 (nmc p)).toArray = ({ v with value := p } : Vt).cells := rfl

set_option maxRecDepth 100000 in
set_option maxHeartbeats 2000000 in
theorem vdec_short (A : Option Addr) (n c : Nat) (w : World) (h : n < 23) : Calls Try.prog 84 #[.slice A n c] w (VDecPost w zeroV 2) := by
  have hR : Blk (w.alloc (Obj.cells zeroVc 41)) w.heap.size 41 zeroVc := Blk.new w _ _
  go_enter Try.func84, Try.ntmps84
  go_wp2_with (refine wpList_store_blk rfl 41 (.tmp 2) (.tmp 11) rfl w.heap.size _ rfl rfl 41 _ hR rfl size_vote ?s1 ?_)
  case s1 => exact ⟨rfl, rfl⟩
  intro w1 hR1 hg1 hs1
  go_wp2
  exact bodyPost_ret (results_row_tmp (g := w.heap.size) (cs := zeroVc) rfl _ _ _ _ _ rfl hR1 Try.underlying41 rfl size_vote) rfl ⟨rfl, ((Below.refl _ _).alloc (Nat.le_refl _) _).grown hg1 (by simp) (by rintro j ⟨⟩; omega)⟩

set_option maxRecDepth 100000 in
set_option maxHeartbeats 2000000 in
theorem vdec_long (A : Option Addr) (n c : Nat) (w : World) (h : 23 < n) : Calls Try.prog 84 #[.slice A n c] w (VDecPost w zeroV 3) := by
  have hR : Blk (w.alloc (Obj.cells zeroVc 41)) w.heap.size 41 zeroVc := Blk.new w _ _
  go_enter Try.func84, Try.ntmps84
  go_wp2_with (refine wpList_store_blk rfl 41 (.tmp 2) (.tmp 16) rfl w.heap.size _ rfl rfl 41 _ hR rfl size_vote ?s1 ?_)
  case s1 => exact ⟨rfl, rfl⟩
  intro w1 hR1 hg1 hs1
  go_wp2
  exact bodyPost_ret (results_row_tmp (g := w.heap.size) (cs := zeroVc) rfl _ _ _ _ _ rfl hR1 Try.underlying41 rfl size_vote) rfl ⟨rfl, ((Below.refl _ _).alloc (Nat.le_refl _) _).grown hg1 (by simp) (by rintro j ⟨⟩; omega)⟩

set_option maxRecDepth 100000 in
set_option maxHeartbeats 4000000 in
theorem vdec_yes (b o c : Nat) (b0 b1 b2 b3 b4 b5 b6 : UInt8) (sp : Nat) (p q : Nm) (V : Vt) (w : World) (hc : 23 ≤ c) (hm : c ≤ maxLen) (hb : b < w.heap.size) (c0 : w.cell? ⟨b, o, none⟩ = some (B b0)) (c1 : w.cell? ⟨b, o + 1, none⟩ = some (B b1)) (c2 : w.cell? ⟨b, o + 2, none⟩ = some (B b2)) (c3 : w.cell? ⟨b, o + 3, none⟩ = some (B b3)) (c4 : w.cell? ⟨b, o + 4, none⟩ = some (B b4)) (c5 : w.cell? ⟨b, o + 5, none⟩ = some (B b5)) (c6 : w.cell? ⟨b, o + 6, none⟩ = some (B b6))
    (hp : ∀ j u, (nmc p)[j]? = some u → w.cell? ⟨b, o + 7 + j, none⟩ = some u) (hq : ∀ j u, (nmc q)[j]? = some u → w.cell? ⟨b, o + 15 + j, none⟩ = some u)
    (hV : V = ⟨(b0.toNat : Int), (b1.toNat : Int), (b2.toNat : Int), (b3.toNat : Int), (b4.toNat : Int), (sp : Int), p, q⟩) (hsp : sp = b5.toNat * 256 + b6.toNat) (hok : V.ok) (hy : ValidP V)
    (hu : ∀ W, Below w.heap.size w W → Calls Try.prog 117 #[.slice (some ⟨b, o, none⟩) 23 c, .int .i64 5, .int .i64 2] W fun e w' => e = .returned (.tuple #[.int .u64 (sp : Int), .bool true]) ∧ w' = W) :
    Calls Try.prog 84 #[.slice (some ⟨b, o, none⟩) 23 c] w (VDecPost w V 0) := by
  have HV := Lib.hid (fun W => valid_yes V W hok hy)
  have HU := Lib.hid hu; clear hu
  have HP := Lib.hid hp; clear hp
  have HQ := Lib.hid hq; clear hq
  have HE := Lib.hid hV
  clear hV hok hy
  unfold maxLen at hm
  have hspl : sp ≤ 65535 := by have := b5.toNat_lt; have := b6.toNat_lt; omega
  have HSP := Lib.hid hsp; clear hsp
  have t0 := b0.toNat_lt; have t1 := b1.toNat_lt; have t2 := b2.toNat_lt; have t3 := b3.toNat_lt; have t4 := b4.toNat_lt; have t5 := b5.toNat_lt; have t6 := b6.toNat_lt
  go_enter Try.func84, Try.ntmps84
  go_upto_region 6 with ((go_at_call 117; refine (HU.out _ ((Below.refl _ _).alloc (Nat.le_refl _) _)).mono ?_; rintro en w' ⟨rfl, rfl⟩))
  have hR : Blk (w.alloc (Obj.cells zeroVc 41)) w.heap.size 41 zeroVc := Blk.new w _ _
  have hbW : Below w.heap.size w (w.alloc (Obj.cells zeroVc 41)) := (Below.refl _ _).alloc (Nat.le_refl _) _
  have hlt : b < (w.alloc (Obj.cells zeroVc 41)).heap.size := by simp; omega
  have d0 : (w.alloc (Obj.cells zeroVc 41)).cell? ⟨b, o, none⟩ = some (B b0) := (World.cell?_alloc_lt _ _ _ hb).trans c0
  have d1 : (w.alloc (Obj.cells zeroVc 41)).cell? ⟨b, o + 1, none⟩ = some (B b1) := (World.cell?_alloc_lt _ _ _ hb).trans c1
  have d2 : (w.alloc (Obj.cells zeroVc 41)).cell? ⟨b, o + 2, none⟩ = some (B b2) := (World.cell?_alloc_lt _ _ _ hb).trans c2
  have d3 : (w.alloc (Obj.cells zeroVc 41)).cell? ⟨b, o + 3, none⟩ = some (B b3) := (World.cell?_alloc_lt _ _ _ hb).trans c3
  have d4 : (w.alloc (Obj.cells zeroVc 41)).cell? ⟨b, o + 4, none⟩ = some (B b4) := (World.cell?_alloc_lt _ _ _ hb).trans c4
  have d5 : (w.alloc (Obj.cells zeroVc 41)).cell? ⟨b, o + 5, none⟩ = some (B b5) := (World.cell?_alloc_lt _ _ _ hb).trans c5
  have d6 : (w.alloc (Obj.cells zeroVc 41)).cell? ⟨b, o + 6, none⟩ = some (B b6) := (World.cell?_alloc_lt _ _ _ hb).trans c6
  clear c0 c1 c2 c3 c4 c5 c6
  generalize (w.alloc (Obj.cells zeroVc 41)) = W at *
  have hw0 : IntKind.i64.wrap (b0.toNat : Int) = (b0.toNat : Int) := IntWalk.i64_in _ (by omega)
  have hw1 : IntKind.i64.wrap (b1.toNat : Int) = (b1.toNat : Int) := IntWalk.i64_in _ (by omega)
  have hw2 : IntKind.i64.wrap (b2.toNat : Int) = (b2.toNat : Int) := IntWalk.i64_in _ (by omega)
  have hw3 : IntKind.i64.wrap (b3.toNat : Int) = (b3.toNat : Int) := IntWalk.i64_in _ (by omega)
  have hw4 : IntKind.i64.wrap (b4.toNat : Int) = (b4.toNat : Int) := IntWalk.i64_in _ (by omega)
  have hw5 : IntKind.i64.wrap (b5.toNat : Int) = (b5.toNat : Int) := IntWalk.i64_in _ (by omega)
  have hw6 : IntKind.i64.wrap (b6.toNat : Int) = (b6.toNat : Int) := IntWalk.i64_in _ (by omega)
  have hw7 : IntKind.i64.wrap (sp : Int) = (sp : Int) := IntWalk.i64_in _ (by omega)
  clear t0 t1 t2 t3 t4 t5 t6
  refine wp_region_noPanic ?_
  refine wp_region_held_drew (S := fun w' => w'.cell? ⟨b, o, none⟩ = some (B b0) ∧ w'.cell? ⟨b, o + 1, none⟩ = some (B b1) ∧ w'.cell? ⟨b, o + 2, none⟩ = some (B b2) ∧ w'.cell? ⟨b, o + 3, none⟩ = some (B b3) ∧ w'.cell? ⟨b, o + 4, none⟩ = some (B b4) ∧ w'.cell? ⟨b, o + 5, none⟩ = some (B b5) ∧ w'.cell? ⟨b, o + 6, none⟩ = some (B b6)) (by kernel_rfl) (⟨d0, d1, d2, d3, d4, d5, d6⟩) (fun hHeld => ?_)
  refine wpAnyH_takeD (some 22) (i := 0) (v := ?vh0) rfl rfl (by kernel_rfl) (by kernel_rfl) (by kernel_rfl) (fun _ _ _ h => h) (by rfl) ?hh0 (by assumption) ?_
  case hh0 => (intro wq hSw; (try dsimp only at hSw); go_simp; (try (with_reducible rfl)))
  go_frame
  refine wpAnyH_takeD (some 23) (i := 1) (v := ?vh1) rfl rfl (by kernel_rfl) (by kernel_rfl) (by kernel_rfl) (fun _ _ _ h => h) (by rfl) ?hh1 (by assumption) ?_
  case hh1 => (intro wq hSw; (try dsimp only at hSw); go_simp; (try (with_reducible rfl)))
  go_frame
  refine wpAnyH_takeD (some 24) (i := 2) (v := ?vh2) rfl rfl (by kernel_rfl) (by kernel_rfl) (by kernel_rfl) (fun _ _ _ h => h) (by rfl) ?hh2 (by assumption) ?_
  case hh2 => (intro wq hSw; (try dsimp only at hSw); go_simp; (try (with_reducible rfl)))
  go_frame
  refine wpAnyH_takeD (some 25) (i := 3) (v := ?vh3) rfl rfl (by kernel_rfl) (by kernel_rfl) (by kernel_rfl) (fun _ _ _ h => h) (by rfl) ?hh3 (by assumption) ?_
  case hh3 => (intro wq hSw; (try dsimp only at hSw); go_simp; (try (with_reducible rfl)))
  go_frame
  refine wpAnyH_takeD (some 26) (i := 4) (v := ?vh4) rfl rfl (by kernel_rfl) (by kernel_rfl) (by kernel_rfl) (fun _ _ _ h => h) (by rfl) ?hh4 (by assumption) ?_
  case hh4 => (intro wq hSw; (try dsimp only at hSw); go_simp; (try (with_reducible rfl)))
  go_frame
  refine wpAnyH_takeD (some 27) (i := 5) (v := ?vh5) rfl rfl (by kernel_rfl) (by kernel_rfl) (by kernel_rfl) (fun _ _ _ h => h) (by rfl) ?hh5 (by assumption) ?_
  case hh5 => (intro wq hSw; (try dsimp only at hSw); go_simp; (try (with_reducible rfl)))
  go_frame
  refine wpAnyH_takeD (some 28) (i := 6) (v := ?vh6) rfl rfl (by kernel_rfl) (by kernel_rfl) (by kernel_rfl) (fun _ _ _ h => h) (by rfl) ?hh6 (by assumption) ?_
  case hh6 => (intro wq hSw; (try dsimp only at hSw); go_simp; (try (with_reducible rfl)))
  go_frame
  refine wpAnyH_takeD (some 29) (i := 7) (v := ?vh7) rfl rfl (by kernel_rfl) (by kernel_rfl) (by kernel_rfl) (fun _ _ _ h => h) (by rfl) ?hh7 (by assumption) ?_
  case hh7 => (intro wq hSw; (try dsimp only at hSw); go_simp; (try (with_reducible rfl)))
  go_frame
  refine wpAnyH_takeD (some 30) (i := 8) (v := ?vh8) rfl rfl (by kernel_rfl) (by kernel_rfl) (by kernel_rfl) (fun _ _ _ h => h) (by rfl) ?hh8 (by assumption) ?_
  case hh8 => (intro wq hSw; (try dsimp only at hSw); go_simp; (try (with_reducible rfl)))
  go_frame
  refine wpAnyH_takeD (some 31) (i := 9) (v := ?vh9) rfl rfl (by kernel_rfl) (by kernel_rfl) (by kernel_rfl) (fun _ _ _ h => h) (by rfl) ?hh9 (by assumption) ?_
  case hh9 => (intro wq hSw; (try dsimp only at hSw); go_simp; (try (with_reducible rfl)))
  go_frame
  refine wpAnyH_takeD (some 32) (i := 10) (v := ?vh10) rfl rfl (by kernel_rfl) (by kernel_rfl) (by kernel_rfl) (fun _ _ _ h => h) (by rfl) ?hh10 (by assumption) ?_
  case hh10 => (intro wq hSw; (try dsimp only at hSw); go_simp; (try (with_reducible rfl)))
  go_frame
  refine wpAnyH_takeD (some 33) (i := 11) (v := ?vh11) rfl rfl (by kernel_rfl) (by kernel_rfl) (by kernel_rfl) (fun _ _ _ h => h) (by rfl) ?hh11 (by assumption) ?_
  case hh11 => (intro wq hSw; (try dsimp only at hSw); go_simp; (try (with_reducible rfl)))
  go_frame
  refine wpAnyH_takeD (some 34) (i := 12) (v := ?vh12) rfl rfl (by kernel_rfl) (by kernel_rfl) (by kernel_rfl) (fun _ _ _ h => h) (by rfl) ?hh12 (by assumption) ?_
  case hh12 => (intro wq hSw; (try dsimp only at hSw); go_simp; (try (with_reducible rfl)))
  go_frame
  refine wpAnyH_takeD (some 35) (i := 13) (v := ?vh13) rfl rfl (by kernel_rfl) (by kernel_rfl) (by kernel_rfl) (fun _ _ _ h => h) (by rfl) ?hh13 (by assumption) ?_
  case hh13 => (intro wq hSw; (try dsimp only at hSw); go_simp; (try (with_reducible rfl)))
  go_frame
  refine wpAnyH_takeD (some 36) (i := 14) (v := ?vh14) rfl rfl (by kernel_rfl) (by kernel_rfl) (by kernel_rfl) (fun _ _ _ h => h) (by rfl) ?hh14 (by assumption) ?_
  case hh14 => (intro wq hSw; (try dsimp only at hSw); go_simp; (try (with_reducible rfl)))
  go_frame
  refine wpAnyH_takeD (some 37) (i := 15) (v := ?vh15) rfl rfl (by kernel_rfl) (by kernel_rfl) (by kernel_rfl) (fun _ _ _ h => h) (by rfl) ?hh15 (by assumption) ?_
  case hh15 => (intro wq hSw; (try dsimp only at hSw); go_simp; (try (with_reducible rfl)))
  go_frame
  refine wpAnyH_takeD (some 38) (i := 16) (v := ?vh16) rfl rfl (by kernel_rfl) (by kernel_rfl) (by kernel_rfl) (fun _ _ _ h => h) (by rfl) ?hh16 (by assumption) ?_
  case hh16 => (intro wq hSw; (try dsimp only at hSw); go_simp; (try (with_reducible rfl)))
  go_frame
  refine wpAnyH_takeD (some 39) (i := 17) (v := ?vh17) rfl rfl (by kernel_rfl) (by kernel_rfl) (by kernel_rfl) (fun _ _ _ h => h) (by rfl) ?hh17 (by assumption) ?_
  case hh17 => (intro wq hSw; (try dsimp only at hSw); go_simp; (try (with_reducible rfl)))
  go_frame
  refine wpAnyH_takeD (some 40) (i := 18) (v := ?vh18) rfl rfl (by kernel_rfl) (by kernel_rfl) (by kernel_rfl) (fun _ _ _ h => h) (by rfl) ?hh18 (by assumption) ?_
  case hh18 => (intro wq hSw; (try dsimp only at hSw); go_simp; (try (with_reducible rfl)))
  go_frame
  refine wpAnyH_takeD (some 41) (i := 19) (v := ?vh19) rfl rfl (by kernel_rfl) (by kernel_rfl) (by kernel_rfl) (fun _ _ _ h => h) (by rfl) ?hh19 (by assumption) ?_
  case hh19 => (intro wq hSw; (try dsimp only at hSw); go_simp; (try (with_reducible rfl)))
  go_frame
  refine wpAnyH_takeD (some 42) (i := 20) (v := ?vh20) rfl rfl (by kernel_rfl) (by kernel_rfl) (by kernel_rfl) (fun _ _ _ h => h) (by rfl) ?hh20 (by assumption) ?_
  case hh20 => (intro wq hSw; (try dsimp only at hSw); go_simp; (try (with_reducible rfl)))
  go_frame
  refine wpAnyH_takeD (some 43) (i := 21) (v := ?vh21) rfl rfl (by kernel_rfl) (by kernel_rfl) (by kernel_rfl) (fun _ _ _ h => h) (by rfl) ?hh21 (by assumption) ?_
  case hh21 => (intro wq hSw; (try dsimp only at hSw); go_simp; (try (with_reducible rfl)))
  go_frame
  refine wpAnyH_takeD (some 44) (i := 22) (v := ?vh22) rfl rfl (by kernel_rfl) (by kernel_rfl) (by kernel_rfl) (fun _ _ _ h => h) (by rfl) ?hh22 (by assumption) ?_
  case hh22 => (intro wq hSw; (try dsimp only at hSw); go_simp; (try (with_reducible rfl)))
  go_frame
  refine wpAnyH_ready (rs := [23]) (by kernel_rfl) (by simp) ?_
  refine AllReadyH.cons rfl (fun K hK => ?_) AllReadyH.nil
  go_simp
  refine hK.out _ _ (⟨(World.cell?_alloc_lt _ _ _ hlt).trans d0, (World.cell?_alloc_lt _ _ _ hlt).trans d1, (World.cell?_alloc_lt _ _ _ hlt).trans d2, (World.cell?_alloc_lt _ _ _ hlt).trans d3, (World.cell?_alloc_lt _ _ _ hlt).trans d4, (World.cell?_alloc_lt _ _ _ hlt).trans d5, (World.cell?_alloc_lt _ _ _ hlt).trans d6⟩) (fun hHeld => ?_)
  clear hK K
  try go_frame
  refine wpAnyH_ready (rs := [24]) (by kernel_rfl) (by simp) ?_
  refine AllReadyH.cons rfl (fun K hK => ?_) AllReadyH.nil
  rw [if_pos (by rfl)]
  refine wp_store_blk 41 (.tmp 6) (.tmp 44) rfl W.heap.size (⟨(b0.toNat : Int), (b1.toNat : Int), (b2.toNat : Int), (b3.toNat : Int), (b4.toNat : Int), (sp : Int), Nm.zero, Nm.zero⟩ : Vt).cells rfl rfl 41 zeroVc (Blk.new W.drew _ _) rfl size_vote (fun u hu => one_vt (⟨(b0.toNat : Int), (b1.toNat : Int), (b2.toNat : Int), (b3.toNat : Int), (b4.toNat : Int), (sp : Int), Nm.zero, Nm.zero⟩ : Vt) hu) rfl ?_; intro w1 hV1 hg1 hs1
  refine hK.out _ _ (⟨(World.cell?_of_block (a := ⟨b, o, none⟩) (hg1.block b (by simp; omega) (by simp; omega))).trans ((World.cell?_alloc_lt _ _ _ hlt).trans d0), (World.cell?_of_block (a := ⟨b, o + 1, none⟩) (hg1.block b (by simp; omega) (by simp; omega))).trans ((World.cell?_alloc_lt _ _ _ hlt).trans d1), (World.cell?_of_block (a := ⟨b, o + 2, none⟩) (hg1.block b (by simp; omega) (by simp; omega))).trans ((World.cell?_alloc_lt _ _ _ hlt).trans d2), (World.cell?_of_block (a := ⟨b, o + 3, none⟩) (hg1.block b (by simp; omega) (by simp; omega))).trans ((World.cell?_alloc_lt _ _ _ hlt).trans d3), (World.cell?_of_block (a := ⟨b, o + 4, none⟩) (hg1.block b (by simp; omega) (by simp; omega))).trans ((World.cell?_alloc_lt _ _ _ hlt).trans d4), (World.cell?_of_block (a := ⟨b, o + 5, none⟩) (hg1.block b (by simp; omega) (by simp; omega))).trans ((World.cell?_alloc_lt _ _ _ hlt).trans d5), (World.cell?_of_block (a := ⟨b, o + 6, none⟩) (hg1.block b (by simp; omega) (by simp; omega))).trans ((World.cell?_alloc_lt _ _ _ hlt).trans d6)⟩) (fun hHeld => ?_)
  clear hK K
  try go_frame
  refine wpAnyH_done (by kernel_rfl) ?_ _
  refine NoPanic.normal ?_
  clear hHeld d0 d1 d2 d3 d4 d5 d6
  have hR1 : Blk w1 w.heap.size 41 zeroVc := (hR.drew.alloc _).kept hg1 (by have := hR.lt; simp; omega)
  have hbw1 : Below w.heap.size w w1 := (hbW.drew.alloc hbW.size _).grown hg1 (by have := hbW.size; simp; omega) (by rintro j ⟨⟩; exact hbW.size)
  have hWl := hR.lt
  clear hR hbW hg1 hs1 hw0 hw1 hw2 hw3 hw4 hw5 hw6 hw7
  have i1 : (23 : Int) ≤ (c : Int) := by omega
  have i2 : ¬ c = 7 := by omega
  have i3 : ¬ c = 15 := by omega
  have i4 : (15 : Int) ≤ (c : Int) := by omega
  go_wp2
  refine wp_region_still_tail 4 (by kernel_rfl) (by kernel_rfl) ?_
  simp only [List.take_succ_cons, List.take_zero, List.drop_succ_cons, List.drop_zero]
  iterate 4 still_step
  refine wpStill_nil ?_
  change wpList _ _ _ _ _ w1.drew
  refine wpList_copy_splice rfl (.tmp 46) (.tmp 48) _ _ rfl 5 Try.underlying23 (by kernel_rfl) _ _ _ _ _ _ rfl rfl W.heap.size 6 (Vt.cells (⟨(b0.toNat : Int), (b1.toNat : Int), (b2.toNat : Int), (b3.toNat : Int), (b4.toNat : Int), (sp : Int), Nm.zero, Nm.zero⟩ : Vt)).toList 41 hV1.drew (nmc p) ?c11 ?c12 ?c13 ?c14 W.heap.size w1.drew (Below.refl _ _) (Nat.le_refl _) ?_
  case c11 => rfl
  case c12 =>
    intro _
    refine ⟨rfl, _, rfl, fun j v hv => ?_⟩
    rw [Addr.add_mid]
    exact ((hbw1.drew).cell (p := ⟨b, o + 7 + j, none⟩) hb).trans (HP.out j v hv)
  case c13 => simp
  case c14 => exact fun u hu => bytes_one (l := p.bytes) (by simpa [Nm.bytes] using hu)
  intro w2 hg2 hb2
  have hV2 : Blk w2 W.heap.size 41 (Vt.cells { (⟨(b0.toNat : Int), (b1.toNat : Int), (b2.toNat : Int), (b3.toNat : Int), (b4.toNat : Int), (sp : Int), Nm.zero, Nm.zero⟩ : Vt) with parent := p }) := hg2.out
  have hR2 := (hR1.drew).below hb2 hWl
  have hbw2 : Below w.heap.size w w2 := (hbw1.drew).trans (hb2.mono (by omega))
  clear hV1 hR1 hbw1 hb2 hg2
  go_frame
  go_wp2
  refine wp_region_still_tail 4 (by kernel_rfl) (by kernel_rfl) ?_
  simp only [List.take_succ_cons, List.take_zero, List.drop_succ_cons, List.drop_zero]
  iterate 4 still_step
  refine wpStill_nil ?_
  change wpList _ _ _ _ _ w2.drew
  refine wpList_copy_splice rfl (.tmp 51) (.tmp 53) _ _ rfl 5 Try.underlying23 (by kernel_rfl) _ _ _ _ _ _ rfl rfl W.heap.size 14 (Vt.cells { (⟨(b0.toNat : Int), (b1.toNat : Int), (b2.toNat : Int), (b3.toNat : Int), (b4.toNat : Int), (sp : Int), Nm.zero, Nm.zero⟩ : Vt) with parent := p }).toList 41 hV2.drew (nmc q) ?c21 ?c22 ?c23 ?c24 W.heap.size w2.drew (Below.refl _ _) (Nat.le_refl _) ?_
  case c21 => rfl
  case c22 =>
    intro _
    refine ⟨rfl, _, rfl, fun j v hv => ?_⟩
    rw [Addr.add_mid]
    exact ((hbw2.drew).cell (p := ⟨b, o + 15 + j, none⟩) hb).trans (HQ.out j v hv)
  case c23 => simp
  case c24 => exact fun u hu => bytes_one (l := q.bytes) (by simpa [Nm.bytes] using hu)
  intro w3 hg3 hb3
  have hV3 : Blk w3 W.heap.size 41 V.cells := by rw [HE.out]; exact hg3.out
  have hR3 := (hR2.drew).below hb3 hWl
  have hbw3 : Below w.heap.size w w3 := (hbw2.drew).trans (hb3.mono (by omega))
  clear hV2 hR2 hbw2 hb3 hg3
  go_frame
  have x0 := hV3.row 22 rfl
  have hl3 := hV3.lt
  go_wp2_with fail
  refine (HV.out _).mono ?_
  rintro en w4 ⟨rfl, hb4⟩
  have hV4 := hV3.below hb4 hV3.lt
  have hR4 := hR3.below hb4 hR3.lt
  have hbw4 := hbw3.trans (hb4.mono hbw3.size)
  clear hV3 hR3 hbw3 hb4 x0
  have x4 := hV4.row 22 rfl
  go_wp2_with (refine wpList_store_blk rfl 41 (.tmp 2) (.tmp 59) rfl w.heap.size V.cells rfl rfl 41 _ hR4 rfl size_vote (fun u hu => one_vt V hu) ?_)
  intro w5 hR5 hg5 hs5
  go_wp2
  exact bodyPost_ret (results_row_tmp (g := w.heap.size) (cs := V.cells) rfl _ _ _ _ _ rfl hR5 Try.underlying41 rfl size_vote) rfl ⟨rfl, hbw4.grown hg5 hbw4.size (by rintro j ⟨⟩; omega)⟩

set_option maxRecDepth 100000 in
set_option maxHeartbeats 4000000 in
theorem vdec_bad (b o c : Nat) (b0 b1 b2 b3 b4 b5 b6 : UInt8) (sp : Nat) (p q : Nm) (V : Vt) (w : World) (hc : 23 ≤ c) (hm : c ≤ maxLen) (hb : b < w.heap.size) (c0 : w.cell? ⟨b, o, none⟩ = some (B b0)) (c1 : w.cell? ⟨b, o + 1, none⟩ = some (B b1)) (c2 : w.cell? ⟨b, o + 2, none⟩ = some (B b2)) (c3 : w.cell? ⟨b, o + 3, none⟩ = some (B b3)) (c4 : w.cell? ⟨b, o + 4, none⟩ = some (B b4)) (c5 : w.cell? ⟨b, o + 5, none⟩ = some (B b5)) (c6 : w.cell? ⟨b, o + 6, none⟩ = some (B b6))
    (hp : ∀ j u, (nmc p)[j]? = some u → w.cell? ⟨b, o + 7 + j, none⟩ = some u) (hq : ∀ j u, (nmc q)[j]? = some u → w.cell? ⟨b, o + 15 + j, none⟩ = some u)
    (hV : V = ⟨(b0.toNat : Int), (b1.toNat : Int), (b2.toNat : Int), (b3.toNat : Int), (b4.toNat : Int), (sp : Int), p, q⟩) (hsp : sp = b5.toNat * 256 + b6.toNat) (hok : V.ok) (hy : ¬ ValidP V)
    (hu : ∀ W, Below w.heap.size w W → Calls Try.prog 117 #[.slice (some ⟨b, o, none⟩) 23 c, .int .i64 5, .int .i64 2] W fun e w' => e = .returned (.tuple #[.int .u64 (sp : Int), .bool true]) ∧ w' = W) :
    Calls Try.prog 84 #[.slice (some ⟨b, o, none⟩) 23 c] w (VDecPost w zeroV 11) := by
  have HV := Lib.hid (fun W => valid_no V W hok hy)
  have HU := Lib.hid hu; clear hu
  have HP := Lib.hid hp; clear hp
  have HQ := Lib.hid hq; clear hq
  have HE := Lib.hid hV
  clear hV hok hy
  unfold maxLen at hm
  have hspl : sp ≤ 65535 := by have := b5.toNat_lt; have := b6.toNat_lt; omega
  have HSP := Lib.hid hsp; clear hsp
  have t0 := b0.toNat_lt; have t1 := b1.toNat_lt; have t2 := b2.toNat_lt; have t3 := b3.toNat_lt; have t4 := b4.toNat_lt; have t5 := b5.toNat_lt; have t6 := b6.toNat_lt
  go_enter Try.func84, Try.ntmps84
  go_upto_region 6 with ((go_at_call 117; refine (HU.out _ ((Below.refl _ _).alloc (Nat.le_refl _) _)).mono ?_; rintro en w' ⟨rfl, rfl⟩))
  have hR : Blk (w.alloc (Obj.cells zeroVc 41)) w.heap.size 41 zeroVc := Blk.new w _ _
  have hbW : Below w.heap.size w (w.alloc (Obj.cells zeroVc 41)) := (Below.refl _ _).alloc (Nat.le_refl _) _
  have hlt : b < (w.alloc (Obj.cells zeroVc 41)).heap.size := by simp; omega
  have d0 : (w.alloc (Obj.cells zeroVc 41)).cell? ⟨b, o, none⟩ = some (B b0) := (World.cell?_alloc_lt _ _ _ hb).trans c0
  have d1 : (w.alloc (Obj.cells zeroVc 41)).cell? ⟨b, o + 1, none⟩ = some (B b1) := (World.cell?_alloc_lt _ _ _ hb).trans c1
  have d2 : (w.alloc (Obj.cells zeroVc 41)).cell? ⟨b, o + 2, none⟩ = some (B b2) := (World.cell?_alloc_lt _ _ _ hb).trans c2
  have d3 : (w.alloc (Obj.cells zeroVc 41)).cell? ⟨b, o + 3, none⟩ = some (B b3) := (World.cell?_alloc_lt _ _ _ hb).trans c3
  have d4 : (w.alloc (Obj.cells zeroVc 41)).cell? ⟨b, o + 4, none⟩ = some (B b4) := (World.cell?_alloc_lt _ _ _ hb).trans c4
  have d5 : (w.alloc (Obj.cells zeroVc 41)).cell? ⟨b, o + 5, none⟩ = some (B b5) := (World.cell?_alloc_lt _ _ _ hb).trans c5
  have d6 : (w.alloc (Obj.cells zeroVc 41)).cell? ⟨b, o + 6, none⟩ = some (B b6) := (World.cell?_alloc_lt _ _ _ hb).trans c6
  clear c0 c1 c2 c3 c4 c5 c6
  generalize (w.alloc (Obj.cells zeroVc 41)) = W at *
  have hw0 : IntKind.i64.wrap (b0.toNat : Int) = (b0.toNat : Int) := IntWalk.i64_in _ (by omega)
  have hw1 : IntKind.i64.wrap (b1.toNat : Int) = (b1.toNat : Int) := IntWalk.i64_in _ (by omega)
  have hw2 : IntKind.i64.wrap (b2.toNat : Int) = (b2.toNat : Int) := IntWalk.i64_in _ (by omega)
  have hw3 : IntKind.i64.wrap (b3.toNat : Int) = (b3.toNat : Int) := IntWalk.i64_in _ (by omega)
  have hw4 : IntKind.i64.wrap (b4.toNat : Int) = (b4.toNat : Int) := IntWalk.i64_in _ (by omega)
  have hw5 : IntKind.i64.wrap (b5.toNat : Int) = (b5.toNat : Int) := IntWalk.i64_in _ (by omega)
  have hw6 : IntKind.i64.wrap (b6.toNat : Int) = (b6.toNat : Int) := IntWalk.i64_in _ (by omega)
  have hw7 : IntKind.i64.wrap (sp : Int) = (sp : Int) := IntWalk.i64_in _ (by omega)
  clear t0 t1 t2 t3 t4 t5 t6
  refine wp_region_noPanic ?_
  refine wp_region_held_drew (S := fun w' => w'.cell? ⟨b, o, none⟩ = some (B b0) ∧ w'.cell? ⟨b, o + 1, none⟩ = some (B b1) ∧ w'.cell? ⟨b, o + 2, none⟩ = some (B b2) ∧ w'.cell? ⟨b, o + 3, none⟩ = some (B b3) ∧ w'.cell? ⟨b, o + 4, none⟩ = some (B b4) ∧ w'.cell? ⟨b, o + 5, none⟩ = some (B b5) ∧ w'.cell? ⟨b, o + 6, none⟩ = some (B b6)) (by kernel_rfl) (⟨d0, d1, d2, d3, d4, d5, d6⟩) (fun hHeld => ?_)
  refine wpAnyH_takeD (some 22) (i := 0) (v := ?vh0) rfl rfl (by kernel_rfl) (by kernel_rfl) (by kernel_rfl) (fun _ _ _ h => h) (by rfl) ?hh0 (by assumption) ?_
  case hh0 => (intro wq hSw; (try dsimp only at hSw); go_simp; (try (with_reducible rfl)))
  go_frame
  refine wpAnyH_takeD (some 23) (i := 1) (v := ?vh1) rfl rfl (by kernel_rfl) (by kernel_rfl) (by kernel_rfl) (fun _ _ _ h => h) (by rfl) ?hh1 (by assumption) ?_
  case hh1 => (intro wq hSw; (try dsimp only at hSw); go_simp; (try (with_reducible rfl)))
  go_frame
  refine wpAnyH_takeD (some 24) (i := 2) (v := ?vh2) rfl rfl (by kernel_rfl) (by kernel_rfl) (by kernel_rfl) (fun _ _ _ h => h) (by rfl) ?hh2 (by assumption) ?_
  case hh2 => (intro wq hSw; (try dsimp only at hSw); go_simp; (try (with_reducible rfl)))
  go_frame
  refine wpAnyH_takeD (some 25) (i := 3) (v := ?vh3) rfl rfl (by kernel_rfl) (by kernel_rfl) (by kernel_rfl) (fun _ _ _ h => h) (by rfl) ?hh3 (by assumption) ?_
  case hh3 => (intro wq hSw; (try dsimp only at hSw); go_simp; (try (with_reducible rfl)))
  go_frame
  refine wpAnyH_takeD (some 26) (i := 4) (v := ?vh4) rfl rfl (by kernel_rfl) (by kernel_rfl) (by kernel_rfl) (fun _ _ _ h => h) (by rfl) ?hh4 (by assumption) ?_
  case hh4 => (intro wq hSw; (try dsimp only at hSw); go_simp; (try (with_reducible rfl)))
  go_frame
  refine wpAnyH_takeD (some 27) (i := 5) (v := ?vh5) rfl rfl (by kernel_rfl) (by kernel_rfl) (by kernel_rfl) (fun _ _ _ h => h) (by rfl) ?hh5 (by assumption) ?_
  case hh5 => (intro wq hSw; (try dsimp only at hSw); go_simp; (try (with_reducible rfl)))
  go_frame
  refine wpAnyH_takeD (some 28) (i := 6) (v := ?vh6) rfl rfl (by kernel_rfl) (by kernel_rfl) (by kernel_rfl) (fun _ _ _ h => h) (by rfl) ?hh6 (by assumption) ?_
  case hh6 => (intro wq hSw; (try dsimp only at hSw); go_simp; (try (with_reducible rfl)))
  go_frame
  refine wpAnyH_takeD (some 29) (i := 7) (v := ?vh7) rfl rfl (by kernel_rfl) (by kernel_rfl) (by kernel_rfl) (fun _ _ _ h => h) (by rfl) ?hh7 (by assumption) ?_
  case hh7 => (intro wq hSw; (try dsimp only at hSw); go_simp; (try (with_reducible rfl)))
  go_frame
  refine wpAnyH_takeD (some 30) (i := 8) (v := ?vh8) rfl rfl (by kernel_rfl) (by kernel_rfl) (by kernel_rfl) (fun _ _ _ h => h) (by rfl) ?hh8 (by assumption) ?_
  case hh8 => (intro wq hSw; (try dsimp only at hSw); go_simp; (try (with_reducible rfl)))
  go_frame
  refine wpAnyH_takeD (some 31) (i := 9) (v := ?vh9) rfl rfl (by kernel_rfl) (by kernel_rfl) (by kernel_rfl) (fun _ _ _ h => h) (by rfl) ?hh9 (by assumption) ?_
  case hh9 => (intro wq hSw; (try dsimp only at hSw); go_simp; (try (with_reducible rfl)))
  go_frame
  refine wpAnyH_takeD (some 32) (i := 10) (v := ?vh10) rfl rfl (by kernel_rfl) (by kernel_rfl) (by kernel_rfl) (fun _ _ _ h => h) (by rfl) ?hh10 (by assumption) ?_
  case hh10 => (intro wq hSw; (try dsimp only at hSw); go_simp; (try (with_reducible rfl)))
  go_frame
  refine wpAnyH_takeD (some 33) (i := 11) (v := ?vh11) rfl rfl (by kernel_rfl) (by kernel_rfl) (by kernel_rfl) (fun _ _ _ h => h) (by rfl) ?hh11 (by assumption) ?_
  case hh11 => (intro wq hSw; (try dsimp only at hSw); go_simp; (try (with_reducible rfl)))
  go_frame
  refine wpAnyH_takeD (some 34) (i := 12) (v := ?vh12) rfl rfl (by kernel_rfl) (by kernel_rfl) (by kernel_rfl) (fun _ _ _ h => h) (by rfl) ?hh12 (by assumption) ?_
  case hh12 => (intro wq hSw; (try dsimp only at hSw); go_simp; (try (with_reducible rfl)))
  go_frame
  refine wpAnyH_takeD (some 35) (i := 13) (v := ?vh13) rfl rfl (by kernel_rfl) (by kernel_rfl) (by kernel_rfl) (fun _ _ _ h => h) (by rfl) ?hh13 (by assumption) ?_
  case hh13 => (intro wq hSw; (try dsimp only at hSw); go_simp; (try (with_reducible rfl)))
  go_frame
  refine wpAnyH_takeD (some 36) (i := 14) (v := ?vh14) rfl rfl (by kernel_rfl) (by kernel_rfl) (by kernel_rfl) (fun _ _ _ h => h) (by rfl) ?hh14 (by assumption) ?_
  case hh14 => (intro wq hSw; (try dsimp only at hSw); go_simp; (try (with_reducible rfl)))
  go_frame
  refine wpAnyH_takeD (some 37) (i := 15) (v := ?vh15) rfl rfl (by kernel_rfl) (by kernel_rfl) (by kernel_rfl) (fun _ _ _ h => h) (by rfl) ?hh15 (by assumption) ?_
  case hh15 => (intro wq hSw; (try dsimp only at hSw); go_simp; (try (with_reducible rfl)))
  go_frame
  refine wpAnyH_takeD (some 38) (i := 16) (v := ?vh16) rfl rfl (by kernel_rfl) (by kernel_rfl) (by kernel_rfl) (fun _ _ _ h => h) (by rfl) ?hh16 (by assumption) ?_
  case hh16 => (intro wq hSw; (try dsimp only at hSw); go_simp; (try (with_reducible rfl)))
  go_frame
  refine wpAnyH_takeD (some 39) (i := 17) (v := ?vh17) rfl rfl (by kernel_rfl) (by kernel_rfl) (by kernel_rfl) (fun _ _ _ h => h) (by rfl) ?hh17 (by assumption) ?_
  case hh17 => (intro wq hSw; (try dsimp only at hSw); go_simp; (try (with_reducible rfl)))
  go_frame
  refine wpAnyH_takeD (some 40) (i := 18) (v := ?vh18) rfl rfl (by kernel_rfl) (by kernel_rfl) (by kernel_rfl) (fun _ _ _ h => h) (by rfl) ?hh18 (by assumption) ?_
  case hh18 => (intro wq hSw; (try dsimp only at hSw); go_simp; (try (with_reducible rfl)))
  go_frame
  refine wpAnyH_takeD (some 41) (i := 19) (v := ?vh19) rfl rfl (by kernel_rfl) (by kernel_rfl) (by kernel_rfl) (fun _ _ _ h => h) (by rfl) ?hh19 (by assumption) ?_
  case hh19 => (intro wq hSw; (try dsimp only at hSw); go_simp; (try (with_reducible rfl)))
  go_frame
  refine wpAnyH_takeD (some 42) (i := 20) (v := ?vh20) rfl rfl (by kernel_rfl) (by kernel_rfl) (by kernel_rfl) (fun _ _ _ h => h) (by rfl) ?hh20 (by assumption) ?_
  case hh20 => (intro wq hSw; (try dsimp only at hSw); go_simp; (try (with_reducible rfl)))
  go_frame
  refine wpAnyH_takeD (some 43) (i := 21) (v := ?vh21) rfl rfl (by kernel_rfl) (by kernel_rfl) (by kernel_rfl) (fun _ _ _ h => h) (by rfl) ?hh21 (by assumption) ?_
  case hh21 => (intro wq hSw; (try dsimp only at hSw); go_simp; (try (with_reducible rfl)))
  go_frame
  refine wpAnyH_takeD (some 44) (i := 22) (v := ?vh22) rfl rfl (by kernel_rfl) (by kernel_rfl) (by kernel_rfl) (fun _ _ _ h => h) (by rfl) ?hh22 (by assumption) ?_
  case hh22 => (intro wq hSw; (try dsimp only at hSw); go_simp; (try (with_reducible rfl)))
  go_frame
  refine wpAnyH_ready (rs := [23]) (by kernel_rfl) (by simp) ?_
  refine AllReadyH.cons rfl (fun K hK => ?_) AllReadyH.nil
  go_simp
  refine hK.out _ _ (⟨(World.cell?_alloc_lt _ _ _ hlt).trans d0, (World.cell?_alloc_lt _ _ _ hlt).trans d1, (World.cell?_alloc_lt _ _ _ hlt).trans d2, (World.cell?_alloc_lt _ _ _ hlt).trans d3, (World.cell?_alloc_lt _ _ _ hlt).trans d4, (World.cell?_alloc_lt _ _ _ hlt).trans d5, (World.cell?_alloc_lt _ _ _ hlt).trans d6⟩) (fun hHeld => ?_)
  clear hK K
  try go_frame
  refine wpAnyH_ready (rs := [24]) (by kernel_rfl) (by simp) ?_
  refine AllReadyH.cons rfl (fun K hK => ?_) AllReadyH.nil
  rw [if_pos (by rfl)]
  refine wp_store_blk 41 (.tmp 6) (.tmp 44) rfl W.heap.size (⟨(b0.toNat : Int), (b1.toNat : Int), (b2.toNat : Int), (b3.toNat : Int), (b4.toNat : Int), (sp : Int), Nm.zero, Nm.zero⟩ : Vt).cells rfl rfl 41 zeroVc (Blk.new W.drew _ _) rfl size_vote (fun u hu => one_vt (⟨(b0.toNat : Int), (b1.toNat : Int), (b2.toNat : Int), (b3.toNat : Int), (b4.toNat : Int), (sp : Int), Nm.zero, Nm.zero⟩ : Vt) hu) rfl ?_; intro w1 hV1 hg1 hs1
  refine hK.out _ _ (⟨(World.cell?_of_block (a := ⟨b, o, none⟩) (hg1.block b (by simp; omega) (by simp; omega))).trans ((World.cell?_alloc_lt _ _ _ hlt).trans d0), (World.cell?_of_block (a := ⟨b, o + 1, none⟩) (hg1.block b (by simp; omega) (by simp; omega))).trans ((World.cell?_alloc_lt _ _ _ hlt).trans d1), (World.cell?_of_block (a := ⟨b, o + 2, none⟩) (hg1.block b (by simp; omega) (by simp; omega))).trans ((World.cell?_alloc_lt _ _ _ hlt).trans d2), (World.cell?_of_block (a := ⟨b, o + 3, none⟩) (hg1.block b (by simp; omega) (by simp; omega))).trans ((World.cell?_alloc_lt _ _ _ hlt).trans d3), (World.cell?_of_block (a := ⟨b, o + 4, none⟩) (hg1.block b (by simp; omega) (by simp; omega))).trans ((World.cell?_alloc_lt _ _ _ hlt).trans d4), (World.cell?_of_block (a := ⟨b, o + 5, none⟩) (hg1.block b (by simp; omega) (by simp; omega))).trans ((World.cell?_alloc_lt _ _ _ hlt).trans d5), (World.cell?_of_block (a := ⟨b, o + 6, none⟩) (hg1.block b (by simp; omega) (by simp; omega))).trans ((World.cell?_alloc_lt _ _ _ hlt).trans d6)⟩) (fun hHeld => ?_)
  clear hK K
  try go_frame
  refine wpAnyH_done (by kernel_rfl) ?_ _
  refine NoPanic.normal ?_
  clear hHeld d0 d1 d2 d3 d4 d5 d6
  have hR1 : Blk w1 w.heap.size 41 zeroVc := (hR.drew.alloc _).kept hg1 (by have := hR.lt; simp; omega)
  have hbw1 : Below w.heap.size w w1 := (hbW.drew.alloc hbW.size _).grown hg1 (by have := hbW.size; simp; omega) (by rintro j ⟨⟩; exact hbW.size)
  have hWl := hR.lt
  clear hR hbW hg1 hs1 hw0 hw1 hw2 hw3 hw4 hw5 hw6 hw7
  have i1 : (23 : Int) ≤ (c : Int) := by omega
  have i2 : ¬ c = 7 := by omega
  have i3 : ¬ c = 15 := by omega
  have i4 : (15 : Int) ≤ (c : Int) := by omega
  go_wp2
  refine wp_region_still_tail 4 (by kernel_rfl) (by kernel_rfl) ?_
  simp only [List.take_succ_cons, List.take_zero, List.drop_succ_cons, List.drop_zero]
  iterate 4 still_step
  refine wpStill_nil ?_
  change wpList _ _ _ _ _ w1.drew
  refine wpList_copy_splice rfl (.tmp 46) (.tmp 48) _ _ rfl 5 Try.underlying23 (by kernel_rfl) _ _ _ _ _ _ rfl rfl W.heap.size 6 (Vt.cells (⟨(b0.toNat : Int), (b1.toNat : Int), (b2.toNat : Int), (b3.toNat : Int), (b4.toNat : Int), (sp : Int), Nm.zero, Nm.zero⟩ : Vt)).toList 41 hV1.drew (nmc p) ?c11 ?c12 ?c13 ?c14 W.heap.size w1.drew (Below.refl _ _) (Nat.le_refl _) ?_
  case c11 => rfl
  case c12 =>
    intro _
    refine ⟨rfl, _, rfl, fun j v hv => ?_⟩
    rw [Addr.add_mid]
    exact ((hbw1.drew).cell (p := ⟨b, o + 7 + j, none⟩) hb).trans (HP.out j v hv)
  case c13 => simp
  case c14 => exact fun u hu => bytes_one (l := p.bytes) (by simpa [Nm.bytes] using hu)
  intro w2 hg2 hb2
  have hV2 : Blk w2 W.heap.size 41 (Vt.cells { (⟨(b0.toNat : Int), (b1.toNat : Int), (b2.toNat : Int), (b3.toNat : Int), (b4.toNat : Int), (sp : Int), Nm.zero, Nm.zero⟩ : Vt) with parent := p }) := hg2.out
  have hR2 := (hR1.drew).below hb2 hWl
  have hbw2 : Below w.heap.size w w2 := (hbw1.drew).trans (hb2.mono (by omega))
  clear hV1 hR1 hbw1 hb2 hg2
  go_frame
  go_wp2
  refine wp_region_still_tail 4 (by kernel_rfl) (by kernel_rfl) ?_
  simp only [List.take_succ_cons, List.take_zero, List.drop_succ_cons, List.drop_zero]
  iterate 4 still_step
  refine wpStill_nil ?_
  change wpList _ _ _ _ _ w2.drew
  refine wpList_copy_splice rfl (.tmp 51) (.tmp 53) _ _ rfl 5 Try.underlying23 (by kernel_rfl) _ _ _ _ _ _ rfl rfl W.heap.size 14 (Vt.cells { (⟨(b0.toNat : Int), (b1.toNat : Int), (b2.toNat : Int), (b3.toNat : Int), (b4.toNat : Int), (sp : Int), Nm.zero, Nm.zero⟩ : Vt) with parent := p }).toList 41 hV2.drew (nmc q) ?c21 ?c22 ?c23 ?c24 W.heap.size w2.drew (Below.refl _ _) (Nat.le_refl _) ?_
  case c21 => rfl
  case c22 =>
    intro _
    refine ⟨rfl, _, rfl, fun j v hv => ?_⟩
    rw [Addr.add_mid]
    exact ((hbw2.drew).cell (p := ⟨b, o + 15 + j, none⟩) hb).trans (HQ.out j v hv)
  case c23 => simp
  case c24 => exact fun u hu => bytes_one (l := q.bytes) (by simpa [Nm.bytes] using hu)
  intro w3 hg3 hb3
  have hV3 : Blk w3 W.heap.size 41 V.cells := by rw [HE.out]; exact hg3.out
  have hR3 := (hR2.drew).below hb3 hWl
  have hbw3 : Below w.heap.size w w3 := (hbw2.drew).trans (hb3.mono (by omega))
  clear hV2 hR2 hbw2 hb3 hg3
  go_frame
  have x0 := hV3.row 22 rfl
  have hl3 := hV3.lt
  go_wp2_with fail
  refine (HV.out _).mono ?_
  rintro en w4 ⟨rfl, hb4⟩
  have hV4 := hV3.below hb4 hV3.lt
  have hR4 := hR3.below hb4 hR3.lt
  have hbw4 := hbw3.trans (hb4.mono hbw3.size)
  clear hV3 hR3 hbw3 hb4 x0
  have x4 := hV4.row 22 rfl
  go_wp2_with (refine wpList_store_blk rfl 41 (.tmp 2) (.tmp 58) rfl w.heap.size _ rfl rfl 41 _ hR4 rfl size_vote ?s9 ?_)
  case s9 => exact ⟨rfl, rfl⟩
  intro w5 hR5 hg5 hs5
  go_wp2
  exact bodyPost_ret (results_row_tmp (g := w.heap.size) (cs := zeroVc) rfl _ _ _ _ _ rfl hR5 Try.underlying41 rfl size_vote) rfl ⟨rfl, hbw4.grown hg5 hbw4.size (by rintro j ⟨⟩; omega)⟩

set_option maxRecDepth 100000 in
set_option maxHeartbeats 2000000 in
theorem rvdec_short (A : Option Addr) (n c : Nat) (w : World) (h : n < 23) : Calls Try.prog 85 #[.slice A n c] w (VDecPost w zeroV 2) := by
  have hR : Blk (w.alloc (Obj.cells zeroVc 41)) w.heap.size 41 zeroVc := Blk.new w _ _
  go_enter Try.func85, Try.ntmps85
  go_wp2_with (refine wpList_store_blk rfl 41 (.tmp 2) (.tmp 8) rfl w.heap.size _ rfl rfl 41 _ hR rfl size_vote ?s1 ?_)
  case s1 => exact ⟨rfl, rfl⟩
  intro w1 hR1 hg1 hs1
  go_wp2
  exact bodyPost_ret (results_row_tmp (g := w.heap.size) (cs := zeroVc) rfl _ _ _ _ _ rfl hR1 Try.underlying41 rfl size_vote) rfl ⟨rfl, ((Below.refl _ _).alloc (Nat.le_refl _) _).grown hg1 (by simp) (by rintro j ⟨⟩; omega)⟩

set_option maxRecDepth 100000 in
set_option maxHeartbeats 2000000 in
theorem rvdec_long (A : Option Addr) (n c : Nat) (w : World) (h : 23 < n) : Calls Try.prog 85 #[.slice A n c] w (VDecPost w zeroV 3) := by
  have hR : Blk (w.alloc (Obj.cells zeroVc 41)) w.heap.size 41 zeroVc := Blk.new w _ _
  go_enter Try.func85, Try.ntmps85
  go_wp2_with (refine wpList_store_blk rfl 41 (.tmp 2) (.tmp 12) rfl w.heap.size _ rfl rfl 41 _ hR rfl size_vote ?s1 ?_)
  case s1 => exact ⟨rfl, rfl⟩
  intro w1 hR1 hg1 hs1
  go_wp2
  exact bodyPost_ret (results_row_tmp (g := w.heap.size) (cs := zeroVc) rfl _ _ _ _ _ rfl hR1 Try.underlying41 rfl size_vote) rfl ⟨rfl, ((Below.refl _ _).alloc (Nat.le_refl _) _).grown hg1 (by simp) (by rintro j ⟨⟩; omega)⟩

set_option maxRecDepth 100000 in
set_option maxHeartbeats 4000000 in
theorem rvdec_yes (b o c : Nat) (b0 b1 b2 b3 b4 b5 b6 : UInt8) (sp : Nat) (p q : Nm) (V : Vt) (w : World) (hc : 23 ≤ c) (hm : c ≤ maxLen) (hb : b < w.heap.size) (c0 : w.cell? ⟨b, o, none⟩ = some (B b0)) (c1 : w.cell? ⟨b, o + 1, none⟩ = some (B b1)) (c2 : w.cell? ⟨b, o + 2, none⟩ = some (B b2)) (c3 : w.cell? ⟨b, o + 3, none⟩ = some (B b3)) (c4 : w.cell? ⟨b, o + 4, none⟩ = some (B b4)) (c5 : w.cell? ⟨b, o + 5, none⟩ = some (B b5)) (c6 : w.cell? ⟨b, o + 6, none⟩ = some (B b6))
    (hp : ∀ j u, (nmc p)[j]? = some u → w.cell? ⟨b, o + 7 + j, none⟩ = some u) (hq : ∀ j u, (nmc q)[j]? = some u → w.cell? ⟨b, o + 15 + j, none⟩ = some u)
    (hV : V = ⟨(b0.toNat : Int), (b1.toNat : Int), (b2.toNat : Int), (b3.toNat : Int), (b4.toNat : Int), (sp : Int), p, q⟩) (hsp : sp = b5.toNat * 256 + b6.toNat) (hok : V.ok) (hy : ValidP V) :
    Calls Try.prog 85 #[.slice (some ⟨b, o, none⟩) 23 c] w (VDecPost w V 0) := by
  have HV := Lib.hid (fun W => rvalid_yes V W hok hy)
  have HP := Lib.hid hp; clear hp
  have HQ := Lib.hid hq; clear hq
  have HE := Lib.hid hV
  clear hV hok hy
  unfold maxLen at hm
  have hspl : sp ≤ 65535 := by have := b5.toNat_lt; have := b6.toNat_lt; omega
  have HSP := Lib.hid hsp; clear hsp
  have t0 := b0.toNat_lt; have t1 := b1.toNat_lt; have t2 := b2.toNat_lt; have t3 := b3.toNat_lt; have t4 := b4.toNat_lt; have t5 := b5.toNat_lt; have t6 := b6.toNat_lt
  go_enter Try.func85, Try.ntmps85
  go_upto_region 5 with fail
  have hR : Blk (w.alloc (Obj.cells zeroVc 41)) w.heap.size 41 zeroVc := Blk.new w _ _
  have hbW : Below w.heap.size w (w.alloc (Obj.cells zeroVc 41)) := (Below.refl _ _).alloc (Nat.le_refl _) _
  have hlt : b < (w.alloc (Obj.cells zeroVc 41)).heap.size := by simp; omega
  have d0 : (w.alloc (Obj.cells zeroVc 41)).cell? ⟨b, o, none⟩ = some (B b0) := (World.cell?_alloc_lt _ _ _ hb).trans c0
  have d1 : (w.alloc (Obj.cells zeroVc 41)).cell? ⟨b, o + 1, none⟩ = some (B b1) := (World.cell?_alloc_lt _ _ _ hb).trans c1
  have d2 : (w.alloc (Obj.cells zeroVc 41)).cell? ⟨b, o + 2, none⟩ = some (B b2) := (World.cell?_alloc_lt _ _ _ hb).trans c2
  have d3 : (w.alloc (Obj.cells zeroVc 41)).cell? ⟨b, o + 3, none⟩ = some (B b3) := (World.cell?_alloc_lt _ _ _ hb).trans c3
  have d4 : (w.alloc (Obj.cells zeroVc 41)).cell? ⟨b, o + 4, none⟩ = some (B b4) := (World.cell?_alloc_lt _ _ _ hb).trans c4
  have d5 : (w.alloc (Obj.cells zeroVc 41)).cell? ⟨b, o + 5, none⟩ = some (B b5) := (World.cell?_alloc_lt _ _ _ hb).trans c5
  have d6 : (w.alloc (Obj.cells zeroVc 41)).cell? ⟨b, o + 6, none⟩ = some (B b6) := (World.cell?_alloc_lt _ _ _ hb).trans c6
  clear c0 c1 c2 c3 c4 c5 c6
  generalize (w.alloc (Obj.cells zeroVc 41)) = W at *
  have hw0 : IntKind.i64.wrap (b0.toNat : Int) = (b0.toNat : Int) := IntWalk.i64_in _ (by omega)
  have hw1 : IntKind.i64.wrap (b1.toNat : Int) = (b1.toNat : Int) := IntWalk.i64_in _ (by omega)
  have hw2 : IntKind.i64.wrap (b2.toNat : Int) = (b2.toNat : Int) := IntWalk.i64_in _ (by omega)
  have hw3 : IntKind.i64.wrap (b3.toNat : Int) = (b3.toNat : Int) := IntWalk.i64_in _ (by omega)
  have hw4 : IntKind.i64.wrap (b4.toNat : Int) = (b4.toNat : Int) := IntWalk.i64_in _ (by omega)
  have hw5 : IntKind.i64.wrap (b5.toNat : Int) = (b5.toNat : Int) := IntWalk.i64_in _ (by omega)
  have hw6 : IntKind.i64.wrap (b6.toNat : Int) = (b6.toNat : Int) := IntWalk.i64_in _ (by omega)
  have hw7 : IntKind.i64.wrap ((b5.toNat : Int) * 256) = (b5.toNat : Int) * 256 := IntWalk.i64_in _ (by omega)
  have hor : bits .or .i64 ((b5.toNat : Int) * 256) (b6.toNat : Int) = (sp : Int) := by rw [or_i64 b5 b6, HSP.out]; omega
  clear t0 t1 t2 t3 t4 t5 t6
  refine wp_region_noPanic ?_
  refine wp_region_held_drew (S := fun w' => w'.cell? ⟨b, o, none⟩ = some (B b0) ∧ w'.cell? ⟨b, o + 1, none⟩ = some (B b1) ∧ w'.cell? ⟨b, o + 2, none⟩ = some (B b2) ∧ w'.cell? ⟨b, o + 3, none⟩ = some (B b3) ∧ w'.cell? ⟨b, o + 4, none⟩ = some (B b4) ∧ w'.cell? ⟨b, o + 5, none⟩ = some (B b5) ∧ w'.cell? ⟨b, o + 6, none⟩ = some (B b6)) (by kernel_rfl) (⟨d0, d1, d2, d3, d4, d5, d6⟩) (fun hHeld => ?_)
  refine wpAnyH_takeD (some 13) (i := 0) (v := ?vh0) rfl rfl (by kernel_rfl) (by kernel_rfl) (by kernel_rfl) (fun _ _ _ h => h) (by rfl) ?hh0 (by assumption) ?_
  case hh0 => (intro wq hSw; (try dsimp only at hSw); go_simp; (try (with_reducible rfl)))
  go_frame
  refine wpAnyH_takeD (some 14) (i := 1) (v := ?vh1) rfl rfl (by kernel_rfl) (by kernel_rfl) (by kernel_rfl) (fun _ _ _ h => h) (by rfl) ?hh1 (by assumption) ?_
  case hh1 => (intro wq hSw; (try dsimp only at hSw); go_simp; (try (with_reducible rfl)))
  go_frame
  refine wpAnyH_takeD (some 15) (i := 2) (v := ?vh2) rfl rfl (by kernel_rfl) (by kernel_rfl) (by kernel_rfl) (fun _ _ _ h => h) (by rfl) ?hh2 (by assumption) ?_
  case hh2 => (intro wq hSw; (try dsimp only at hSw); go_simp; (try (with_reducible rfl)))
  go_frame
  refine wpAnyH_takeD (some 16) (i := 3) (v := ?vh3) rfl rfl (by kernel_rfl) (by kernel_rfl) (by kernel_rfl) (fun _ _ _ h => h) (by rfl) ?hh3 (by assumption) ?_
  case hh3 => (intro wq hSw; (try dsimp only at hSw); go_simp; (try (with_reducible rfl)))
  go_frame
  refine wpAnyH_takeD (some 17) (i := 4) (v := ?vh4) rfl rfl (by kernel_rfl) (by kernel_rfl) (by kernel_rfl) (fun _ _ _ h => h) (by rfl) ?hh4 (by assumption) ?_
  case hh4 => (intro wq hSw; (try dsimp only at hSw); go_simp; (try (with_reducible rfl)))
  go_frame
  refine wpAnyH_takeD (some 18) (i := 5) (v := ?vh5) rfl rfl (by kernel_rfl) (by kernel_rfl) (by kernel_rfl) (fun _ _ _ h => h) (by rfl) ?hh5 (by assumption) ?_
  case hh5 => (intro wq hSw; (try dsimp only at hSw); go_simp; (try (with_reducible rfl)))
  go_frame
  refine wpAnyH_takeD (some 19) (i := 6) (v := ?vh6) rfl rfl (by kernel_rfl) (by kernel_rfl) (by kernel_rfl) (fun _ _ _ h => h) (by rfl) ?hh6 (by assumption) ?_
  case hh6 => (intro wq hSw; (try dsimp only at hSw); go_simp; (try (with_reducible rfl)))
  go_frame
  refine wpAnyH_takeD (some 20) (i := 7) (v := ?vh7) rfl rfl (by kernel_rfl) (by kernel_rfl) (by kernel_rfl) (fun _ _ _ h => h) (by rfl) ?hh7 (by assumption) ?_
  case hh7 => (intro wq hSw; (try dsimp only at hSw); go_simp; (try (with_reducible rfl)))
  go_frame
  refine wpAnyH_takeD (some 21) (i := 8) (v := ?vh8) rfl rfl (by kernel_rfl) (by kernel_rfl) (by kernel_rfl) (fun _ _ _ h => h) (by rfl) ?hh8 (by assumption) ?_
  case hh8 => (intro wq hSw; (try dsimp only at hSw); go_simp; (try (with_reducible rfl)))
  go_frame
  refine wpAnyH_takeD (some 22) (i := 9) (v := ?vh9) rfl rfl (by kernel_rfl) (by kernel_rfl) (by kernel_rfl) (fun _ _ _ h => h) (by rfl) ?hh9 (by assumption) ?_
  case hh9 => (intro wq hSw; (try dsimp only at hSw); go_simp; (try (with_reducible rfl)))
  go_frame
  refine wpAnyH_takeD (some 23) (i := 10) (v := ?vh10) rfl rfl (by kernel_rfl) (by kernel_rfl) (by kernel_rfl) (fun _ _ _ h => h) (by rfl) ?hh10 (by assumption) ?_
  case hh10 => (intro wq hSw; (try dsimp only at hSw); go_simp; (try (with_reducible rfl)))
  go_frame
  refine wpAnyH_takeD (some 24) (i := 11) (v := ?vh11) rfl rfl (by kernel_rfl) (by kernel_rfl) (by kernel_rfl) (fun _ _ _ h => h) (by rfl) ?hh11 (by assumption) ?_
  case hh11 => (intro wq hSw; (try dsimp only at hSw); go_simp; (try (with_reducible rfl)))
  go_frame
  refine wpAnyH_takeD (some 25) (i := 12) (v := ?vh12) rfl rfl (by kernel_rfl) (by kernel_rfl) (by kernel_rfl) (fun _ _ _ h => h) (by rfl) ?hh12 (by assumption) ?_
  case hh12 => (intro wq hSw; (try dsimp only at hSw); go_simp; (try (with_reducible rfl)))
  go_frame
  refine wpAnyH_takeD (some 26) (i := 13) (v := ?vh13) rfl rfl (by kernel_rfl) (by kernel_rfl) (by kernel_rfl) (fun _ _ _ h => h) (by rfl) ?hh13 (by assumption) ?_
  case hh13 => (intro wq hSw; (try dsimp only at hSw); go_simp; (try (with_reducible rfl)))
  go_frame
  refine wpAnyH_takeD (some 27) (i := 14) (v := ?vh14) rfl rfl (by kernel_rfl) (by kernel_rfl) (by kernel_rfl) (fun _ _ _ h => h) (by rfl) ?hh14 (by assumption) ?_
  case hh14 => (intro wq hSw; (try dsimp only at hSw); go_simp; (try (with_reducible rfl)))
  go_frame
  refine wpAnyH_takeD (some 28) (i := 15) (v := ?vh15) rfl rfl (by kernel_rfl) (by kernel_rfl) (by kernel_rfl) (fun _ _ _ h => h) (by rfl) ?hh15 (by assumption) ?_
  case hh15 => (intro wq hSw; (try dsimp only at hSw); go_simp; (try (with_reducible rfl)))
  go_frame
  refine wpAnyH_takeD (some 29) (i := 16) (v := ?vh16) rfl rfl (by kernel_rfl) (by kernel_rfl) (by kernel_rfl) (fun _ _ _ h => h) (by rfl) ?hh16 (by assumption) ?_
  case hh16 => (intro wq hSw; (try dsimp only at hSw); go_simp; (try (with_reducible rfl)))
  go_frame
  refine wpAnyH_takeD (some 30) (i := 17) (v := ?vh17) rfl rfl (by kernel_rfl) (by kernel_rfl) (by kernel_rfl) (fun _ _ _ h => h) (by rfl) ?hh17 (by assumption) ?_
  case hh17 => (intro wq hSw; (try dsimp only at hSw); go_simp; (try (with_reducible rfl)))
  go_frame
  refine wpAnyH_takeD (some 31) (i := 18) (v := ?vh18) rfl rfl (by kernel_rfl) (by kernel_rfl) (by kernel_rfl) (fun _ _ _ h => h) (by rfl) ?hh18 (by assumption) ?_
  case hh18 => (intro wq hSw; (try dsimp only at hSw); go_simp; (try (with_reducible rfl)))
  go_frame
  refine wpAnyH_takeD (some 32) (i := 19) (v := ?vh19) rfl rfl (by kernel_rfl) (by kernel_rfl) (by kernel_rfl) (fun _ _ _ h => h) (by rfl) ?hh19 (by assumption) ?_
  case hh19 => (intro wq hSw; (try dsimp only at hSw); go_simp; (try (with_reducible rfl)))
  go_frame
  refine wpAnyH_takeD (some 33) (i := 20) (v := ?vh20) rfl rfl (by kernel_rfl) (by kernel_rfl) (by kernel_rfl) (fun _ _ _ h => h) (by rfl) ?hh20 (by assumption) ?_
  case hh20 => (intro wq hSw; (try dsimp only at hSw); go_simp; (try (with_reducible rfl)))
  go_frame
  refine wpAnyH_takeD (some 34) (i := 21) (v := ?vh21) rfl rfl (by kernel_rfl) (by kernel_rfl) (by kernel_rfl) (fun _ _ _ h => h) (by rfl) ?hh21 (by assumption) ?_
  case hh21 => (intro wq hSw; (try dsimp only at hSw); go_simp; (try (with_reducible rfl)))
  go_frame
  refine wpAnyH_takeD (some 35) (i := 22) (v := ?vh22) rfl rfl (by kernel_rfl) (by kernel_rfl) (by kernel_rfl) (fun _ _ _ h => h) (by rfl) ?hh22 (by assumption) ?_
  case hh22 => (intro wq hSw; (try dsimp only at hSw); go_simp; (try (with_reducible rfl)))
  go_frame
  refine wpAnyH_takeD (some 36) (i := 23) (v := ?vh23) rfl rfl (by kernel_rfl) (by kernel_rfl) (by kernel_rfl) (fun _ _ _ h => h) (by rfl) ?hh23 (by assumption) ?_
  case hh23 => (intro wq hSw; (try dsimp only at hSw); go_simp; (try (with_reducible rfl)))
  go_frame
  refine wpAnyH_takeD (some 37) (i := 24) (v := ?vh24) rfl rfl (by kernel_rfl) (by kernel_rfl) (by kernel_rfl) (fun _ _ _ h => h) (by rfl) ?hh24 (by assumption) ?_
  case hh24 => (intro wq hSw; (try dsimp only at hSw); go_simp; (try (with_reducible rfl)))
  go_frame
  refine wpAnyH_takeD (some 38) (i := 25) (v := ?vh25) rfl rfl (by kernel_rfl) (by kernel_rfl) (by kernel_rfl) (fun _ _ _ h => h) (by rfl) ?hh25 (by assumption) ?_
  case hh25 => (intro wq hSw; (try dsimp only at hSw); go_simp; (try (with_reducible rfl)))
  go_frame
  refine wpAnyH_takeD (some 39) (i := 26) (v := ?vh26) rfl rfl (by kernel_rfl) (by kernel_rfl) (by kernel_rfl) (fun _ _ _ h => h) (by rfl) ?hh26 (by assumption) ?_
  case hh26 => (intro wq hSw; (try dsimp only at hSw); go_simp; (try (with_reducible rfl)))
  go_frame
  refine wpAnyH_takeD (some 40) (i := 27) (v := ?vh27) rfl rfl (by kernel_rfl) (by kernel_rfl) (by kernel_rfl) (fun _ _ _ h => h) (by rfl) ?hh27 (by assumption) ?_
  case hh27 => (intro wq hSw; (try dsimp only at hSw); go_simp; (try (with_reducible rfl)))
  go_frame
  refine wpAnyH_takeD (some 41) (i := 28) (v := ?vh28) rfl rfl (by kernel_rfl) (by kernel_rfl) (by kernel_rfl) (fun _ _ _ h => h) (by rfl) ?hh28 (by assumption) ?_
  case hh28 => (intro wq hSw; (try dsimp only at hSw); go_simp; (try (with_reducible rfl)))
  go_frame
  refine wpAnyH_takeD (some 42) (i := 29) (v := ?vh29) rfl rfl (by kernel_rfl) (by kernel_rfl) (by kernel_rfl) (fun _ _ _ h => h) (by rfl) ?hh29 (by assumption) ?_
  case hh29 => (intro wq hSw; (try dsimp only at hSw); go_simp; (try (with_reducible rfl)))
  go_frame
  refine wpAnyH_takeD (some 43) (i := 30) (v := ?vh30) rfl rfl (by kernel_rfl) (by kernel_rfl) (by kernel_rfl) (fun _ _ _ h => h) (by rfl) ?hh30 (by assumption) ?_
  case hh30 => (intro wq hSw; (try dsimp only at hSw); go_simp; (try (with_reducible rfl)))
  go_frame
  refine wpAnyH_ready (rs := [31]) (by kernel_rfl) (by simp) ?_
  refine AllReadyH.cons rfl (fun K hK => ?_) AllReadyH.nil
  go_simp
  refine hK.out _ _ (⟨(World.cell?_alloc_lt _ _ _ hlt).trans d0, (World.cell?_alloc_lt _ _ _ hlt).trans d1, (World.cell?_alloc_lt _ _ _ hlt).trans d2, (World.cell?_alloc_lt _ _ _ hlt).trans d3, (World.cell?_alloc_lt _ _ _ hlt).trans d4, (World.cell?_alloc_lt _ _ _ hlt).trans d5, (World.cell?_alloc_lt _ _ _ hlt).trans d6⟩) (fun hHeld => ?_)
  clear hK K
  try go_frame
  refine wpAnyH_ready (rs := [32]) (by kernel_rfl) (by simp) ?_
  refine AllReadyH.cons rfl (fun K hK => ?_) AllReadyH.nil
  rw [if_pos (by rfl)]
  refine wp_store_blk 41 (.tmp 4) (.tmp 43) rfl W.heap.size (⟨(b0.toNat : Int), (b1.toNat : Int), (b2.toNat : Int), (b3.toNat : Int), (b4.toNat : Int), (sp : Int), Nm.zero, Nm.zero⟩ : Vt).cells rfl rfl 41 zeroVc (Blk.new W.drew _ _) rfl size_vote (fun u hu => one_vt (⟨(b0.toNat : Int), (b1.toNat : Int), (b2.toNat : Int), (b3.toNat : Int), (b4.toNat : Int), (sp : Int), Nm.zero, Nm.zero⟩ : Vt) hu) rfl ?_; intro w1 hV1 hg1 hs1
  refine hK.out _ _ (⟨(World.cell?_of_block (a := ⟨b, o, none⟩) (hg1.block b (by simp; omega) (by simp; omega))).trans ((World.cell?_alloc_lt _ _ _ hlt).trans d0), (World.cell?_of_block (a := ⟨b, o + 1, none⟩) (hg1.block b (by simp; omega) (by simp; omega))).trans ((World.cell?_alloc_lt _ _ _ hlt).trans d1), (World.cell?_of_block (a := ⟨b, o + 2, none⟩) (hg1.block b (by simp; omega) (by simp; omega))).trans ((World.cell?_alloc_lt _ _ _ hlt).trans d2), (World.cell?_of_block (a := ⟨b, o + 3, none⟩) (hg1.block b (by simp; omega) (by simp; omega))).trans ((World.cell?_alloc_lt _ _ _ hlt).trans d3), (World.cell?_of_block (a := ⟨b, o + 4, none⟩) (hg1.block b (by simp; omega) (by simp; omega))).trans ((World.cell?_alloc_lt _ _ _ hlt).trans d4), (World.cell?_of_block (a := ⟨b, o + 5, none⟩) (hg1.block b (by simp; omega) (by simp; omega))).trans ((World.cell?_alloc_lt _ _ _ hlt).trans d5), (World.cell?_of_block (a := ⟨b, o + 6, none⟩) (hg1.block b (by simp; omega) (by simp; omega))).trans ((World.cell?_alloc_lt _ _ _ hlt).trans d6)⟩) (fun hHeld => ?_)
  clear hK K
  try go_frame
  refine wpAnyH_done (by kernel_rfl) ?_ _
  refine NoPanic.normal ?_
  clear hHeld d0 d1 d2 d3 d4 d5 d6
  have hR1 : Blk w1 w.heap.size 41 zeroVc := (hR.drew.alloc _).kept hg1 (by have := hR.lt; simp; omega)
  have hbw1 : Below w.heap.size w w1 := (hbW.drew.alloc hbW.size _).grown hg1 (by have := hbW.size; simp; omega) (by rintro j ⟨⟩; exact hbW.size)
  have hWl := hR.lt
  clear hR hbW hg1 hs1 hw0 hw1 hw2 hw3 hw4 hw5 hw6 hw7 hor
  have i1 : (23 : Int) ≤ (c : Int) := by omega
  have i2 : ¬ c = 7 := by omega
  have i3 : ¬ c = 15 := by omega
  have i4 : (15 : Int) ≤ (c : Int) := by omega
  go_wp2
  refine wp_region_still_tail 4 (by kernel_rfl) (by kernel_rfl) ?_
  simp only [List.take_succ_cons, List.take_zero, List.drop_succ_cons, List.drop_zero]
  iterate 4 still_step
  refine wpStill_nil ?_
  change wpList _ _ _ _ _ w1.drew
  refine wpList_copy_splice rfl (.tmp 45) (.tmp 47) _ _ rfl 5 Try.underlying23 (by kernel_rfl) _ _ _ _ _ _ rfl rfl W.heap.size 6 (Vt.cells (⟨(b0.toNat : Int), (b1.toNat : Int), (b2.toNat : Int), (b3.toNat : Int), (b4.toNat : Int), (sp : Int), Nm.zero, Nm.zero⟩ : Vt)).toList 41 hV1.drew (nmc p) ?c11 ?c12 ?c13 ?c14 W.heap.size w1.drew (Below.refl _ _) (Nat.le_refl _) ?_
  case c11 => rfl
  case c12 =>
    intro _
    refine ⟨rfl, _, rfl, fun j v hv => ?_⟩
    rw [Addr.add_mid]
    exact ((hbw1.drew).cell (p := ⟨b, o + 7 + j, none⟩) hb).trans (HP.out j v hv)
  case c13 => simp
  case c14 => exact fun u hu => bytes_one (l := p.bytes) (by simpa [Nm.bytes] using hu)
  intro w2 hg2 hb2
  have hV2 : Blk w2 W.heap.size 41 (Vt.cells { (⟨(b0.toNat : Int), (b1.toNat : Int), (b2.toNat : Int), (b3.toNat : Int), (b4.toNat : Int), (sp : Int), Nm.zero, Nm.zero⟩ : Vt) with parent := p }) := hg2.out
  have hR2 := (hR1.drew).below hb2 hWl
  have hbw2 : Below w.heap.size w w2 := (hbw1.drew).trans (hb2.mono (by omega))
  clear hV1 hR1 hbw1 hb2 hg2
  go_frame
  go_wp2
  refine wp_region_still_tail 4 (by kernel_rfl) (by kernel_rfl) ?_
  simp only [List.take_succ_cons, List.take_zero, List.drop_succ_cons, List.drop_zero]
  iterate 4 still_step
  refine wpStill_nil ?_
  change wpList _ _ _ _ _ w2.drew
  refine wpList_copy_splice rfl (.tmp 50) (.tmp 52) _ _ rfl 5 Try.underlying23 (by kernel_rfl) _ _ _ _ _ _ rfl rfl W.heap.size 14 (Vt.cells { (⟨(b0.toNat : Int), (b1.toNat : Int), (b2.toNat : Int), (b3.toNat : Int), (b4.toNat : Int), (sp : Int), Nm.zero, Nm.zero⟩ : Vt) with parent := p }).toList 41 hV2.drew (nmc q) ?c21 ?c22 ?c23 ?c24 W.heap.size w2.drew (Below.refl _ _) (Nat.le_refl _) ?_
  case c21 => rfl
  case c22 =>
    intro _
    refine ⟨rfl, _, rfl, fun j v hv => ?_⟩
    rw [Addr.add_mid]
    exact ((hbw2.drew).cell (p := ⟨b, o + 15 + j, none⟩) hb).trans (HQ.out j v hv)
  case c23 => simp
  case c24 => exact fun u hu => bytes_one (l := q.bytes) (by simpa [Nm.bytes] using hu)
  intro w3 hg3 hb3
  have hV3 : Blk w3 W.heap.size 41 V.cells := by rw [HE.out]; exact hg3.out
  have hR3 := (hR2.drew).below hb3 hWl
  have hbw3 : Below w.heap.size w w3 := (hbw2.drew).trans (hb3.mono (by omega))
  clear hV2 hR2 hbw2 hb3 hg3
  go_frame
  have x0 := hV3.row 22 rfl
  have hl3 := hV3.lt
  go_wp2_with fail
  refine (HV.out _).mono ?_
  rintro en w4 ⟨rfl, hb4⟩
  have hV4 := hV3.below hb4 hV3.lt
  have hR4 := hR3.below hb4 hR3.lt
  have hbw4 := hbw3.trans (hb4.mono hbw3.size)
  clear hV3 hR3 hbw3 hb4 x0
  have x4 := hV4.row 22 rfl
  go_wp2_with (refine wpList_store_blk rfl 41 (.tmp 2) (.tmp 58) rfl w.heap.size V.cells rfl rfl 41 _ hR4 rfl size_vote (fun u hu => one_vt V hu) ?_)
  intro w5 hR5 hg5 hs5
  go_wp2
  exact bodyPost_ret (results_row_tmp (g := w.heap.size) (cs := V.cells) rfl _ _ _ _ _ rfl hR5 Try.underlying41 rfl size_vote) rfl ⟨rfl, hbw4.grown hg5 hbw4.size (by rintro j ⟨⟩; omega)⟩

set_option maxRecDepth 100000 in
set_option maxHeartbeats 4000000 in
theorem rvdec_bad (b o c : Nat) (b0 b1 b2 b3 b4 b5 b6 : UInt8) (sp : Nat) (p q : Nm) (V : Vt) (w : World) (hc : 23 ≤ c) (hm : c ≤ maxLen) (hb : b < w.heap.size) (c0 : w.cell? ⟨b, o, none⟩ = some (B b0)) (c1 : w.cell? ⟨b, o + 1, none⟩ = some (B b1)) (c2 : w.cell? ⟨b, o + 2, none⟩ = some (B b2)) (c3 : w.cell? ⟨b, o + 3, none⟩ = some (B b3)) (c4 : w.cell? ⟨b, o + 4, none⟩ = some (B b4)) (c5 : w.cell? ⟨b, o + 5, none⟩ = some (B b5)) (c6 : w.cell? ⟨b, o + 6, none⟩ = some (B b6))
    (hp : ∀ j u, (nmc p)[j]? = some u → w.cell? ⟨b, o + 7 + j, none⟩ = some u) (hq : ∀ j u, (nmc q)[j]? = some u → w.cell? ⟨b, o + 15 + j, none⟩ = some u)
    (hV : V = ⟨(b0.toNat : Int), (b1.toNat : Int), (b2.toNat : Int), (b3.toNat : Int), (b4.toNat : Int), (sp : Int), p, q⟩) (hsp : sp = b5.toNat * 256 + b6.toNat) (hok : V.ok) (hy : ¬ ValidP V) :
    Calls Try.prog 85 #[.slice (some ⟨b, o, none⟩) 23 c] w (VDecPost w zeroV 11) := by
  have HV := Lib.hid (fun W => rvalid_no V W hok hy)
  have HP := Lib.hid hp; clear hp
  have HQ := Lib.hid hq; clear hq
  have HE := Lib.hid hV
  clear hV hok hy
  unfold maxLen at hm
  have hspl : sp ≤ 65535 := by have := b5.toNat_lt; have := b6.toNat_lt; omega
  have HSP := Lib.hid hsp; clear hsp
  have t0 := b0.toNat_lt; have t1 := b1.toNat_lt; have t2 := b2.toNat_lt; have t3 := b3.toNat_lt; have t4 := b4.toNat_lt; have t5 := b5.toNat_lt; have t6 := b6.toNat_lt
  go_enter Try.func85, Try.ntmps85
  go_upto_region 5 with fail
  have hR : Blk (w.alloc (Obj.cells zeroVc 41)) w.heap.size 41 zeroVc := Blk.new w _ _
  have hbW : Below w.heap.size w (w.alloc (Obj.cells zeroVc 41)) := (Below.refl _ _).alloc (Nat.le_refl _) _
  have hlt : b < (w.alloc (Obj.cells zeroVc 41)).heap.size := by simp; omega
  have d0 : (w.alloc (Obj.cells zeroVc 41)).cell? ⟨b, o, none⟩ = some (B b0) := (World.cell?_alloc_lt _ _ _ hb).trans c0
  have d1 : (w.alloc (Obj.cells zeroVc 41)).cell? ⟨b, o + 1, none⟩ = some (B b1) := (World.cell?_alloc_lt _ _ _ hb).trans c1
  have d2 : (w.alloc (Obj.cells zeroVc 41)).cell? ⟨b, o + 2, none⟩ = some (B b2) := (World.cell?_alloc_lt _ _ _ hb).trans c2
  have d3 : (w.alloc (Obj.cells zeroVc 41)).cell? ⟨b, o + 3, none⟩ = some (B b3) := (World.cell?_alloc_lt _ _ _ hb).trans c3
  have d4 : (w.alloc (Obj.cells zeroVc 41)).cell? ⟨b, o + 4, none⟩ = some (B b4) := (World.cell?_alloc_lt _ _ _ hb).trans c4
  have d5 : (w.alloc (Obj.cells zeroVc 41)).cell? ⟨b, o + 5, none⟩ = some (B b5) := (World.cell?_alloc_lt _ _ _ hb).trans c5
  have d6 : (w.alloc (Obj.cells zeroVc 41)).cell? ⟨b, o + 6, none⟩ = some (B b6) := (World.cell?_alloc_lt _ _ _ hb).trans c6
  clear c0 c1 c2 c3 c4 c5 c6
  generalize (w.alloc (Obj.cells zeroVc 41)) = W at *
  have hw0 : IntKind.i64.wrap (b0.toNat : Int) = (b0.toNat : Int) := IntWalk.i64_in _ (by omega)
  have hw1 : IntKind.i64.wrap (b1.toNat : Int) = (b1.toNat : Int) := IntWalk.i64_in _ (by omega)
  have hw2 : IntKind.i64.wrap (b2.toNat : Int) = (b2.toNat : Int) := IntWalk.i64_in _ (by omega)
  have hw3 : IntKind.i64.wrap (b3.toNat : Int) = (b3.toNat : Int) := IntWalk.i64_in _ (by omega)
  have hw4 : IntKind.i64.wrap (b4.toNat : Int) = (b4.toNat : Int) := IntWalk.i64_in _ (by omega)
  have hw5 : IntKind.i64.wrap (b5.toNat : Int) = (b5.toNat : Int) := IntWalk.i64_in _ (by omega)
  have hw6 : IntKind.i64.wrap (b6.toNat : Int) = (b6.toNat : Int) := IntWalk.i64_in _ (by omega)
  have hw7 : IntKind.i64.wrap ((b5.toNat : Int) * 256) = (b5.toNat : Int) * 256 := IntWalk.i64_in _ (by omega)
  have hor : bits .or .i64 ((b5.toNat : Int) * 256) (b6.toNat : Int) = (sp : Int) := by rw [or_i64 b5 b6, HSP.out]; omega
  clear t0 t1 t2 t3 t4 t5 t6
  refine wp_region_noPanic ?_
  refine wp_region_held_drew (S := fun w' => w'.cell? ⟨b, o, none⟩ = some (B b0) ∧ w'.cell? ⟨b, o + 1, none⟩ = some (B b1) ∧ w'.cell? ⟨b, o + 2, none⟩ = some (B b2) ∧ w'.cell? ⟨b, o + 3, none⟩ = some (B b3) ∧ w'.cell? ⟨b, o + 4, none⟩ = some (B b4) ∧ w'.cell? ⟨b, o + 5, none⟩ = some (B b5) ∧ w'.cell? ⟨b, o + 6, none⟩ = some (B b6)) (by kernel_rfl) (⟨d0, d1, d2, d3, d4, d5, d6⟩) (fun hHeld => ?_)
  refine wpAnyH_takeD (some 13) (i := 0) (v := ?vh0) rfl rfl (by kernel_rfl) (by kernel_rfl) (by kernel_rfl) (fun _ _ _ h => h) (by rfl) ?hh0 (by assumption) ?_
  case hh0 => (intro wq hSw; (try dsimp only at hSw); go_simp; (try (with_reducible rfl)))
  go_frame
  refine wpAnyH_takeD (some 14) (i := 1) (v := ?vh1) rfl rfl (by kernel_rfl) (by kernel_rfl) (by kernel_rfl) (fun _ _ _ h => h) (by rfl) ?hh1 (by assumption) ?_
  case hh1 => (intro wq hSw; (try dsimp only at hSw); go_simp; (try (with_reducible rfl)))
  go_frame
  refine wpAnyH_takeD (some 15) (i := 2) (v := ?vh2) rfl rfl (by kernel_rfl) (by kernel_rfl) (by kernel_rfl) (fun _ _ _ h => h) (by rfl) ?hh2 (by assumption) ?_
  case hh2 => (intro wq hSw; (try dsimp only at hSw); go_simp; (try (with_reducible rfl)))
  go_frame
  refine wpAnyH_takeD (some 16) (i := 3) (v := ?vh3) rfl rfl (by kernel_rfl) (by kernel_rfl) (by kernel_rfl) (fun _ _ _ h => h) (by rfl) ?hh3 (by assumption) ?_
  case hh3 => (intro wq hSw; (try dsimp only at hSw); go_simp; (try (with_reducible rfl)))
  go_frame
  refine wpAnyH_takeD (some 17) (i := 4) (v := ?vh4) rfl rfl (by kernel_rfl) (by kernel_rfl) (by kernel_rfl) (fun _ _ _ h => h) (by rfl) ?hh4 (by assumption) ?_
  case hh4 => (intro wq hSw; (try dsimp only at hSw); go_simp; (try (with_reducible rfl)))
  go_frame
  refine wpAnyH_takeD (some 18) (i := 5) (v := ?vh5) rfl rfl (by kernel_rfl) (by kernel_rfl) (by kernel_rfl) (fun _ _ _ h => h) (by rfl) ?hh5 (by assumption) ?_
  case hh5 => (intro wq hSw; (try dsimp only at hSw); go_simp; (try (with_reducible rfl)))
  go_frame
  refine wpAnyH_takeD (some 19) (i := 6) (v := ?vh6) rfl rfl (by kernel_rfl) (by kernel_rfl) (by kernel_rfl) (fun _ _ _ h => h) (by rfl) ?hh6 (by assumption) ?_
  case hh6 => (intro wq hSw; (try dsimp only at hSw); go_simp; (try (with_reducible rfl)))
  go_frame
  refine wpAnyH_takeD (some 20) (i := 7) (v := ?vh7) rfl rfl (by kernel_rfl) (by kernel_rfl) (by kernel_rfl) (fun _ _ _ h => h) (by rfl) ?hh7 (by assumption) ?_
  case hh7 => (intro wq hSw; (try dsimp only at hSw); go_simp; (try (with_reducible rfl)))
  go_frame
  refine wpAnyH_takeD (some 21) (i := 8) (v := ?vh8) rfl rfl (by kernel_rfl) (by kernel_rfl) (by kernel_rfl) (fun _ _ _ h => h) (by rfl) ?hh8 (by assumption) ?_
  case hh8 => (intro wq hSw; (try dsimp only at hSw); go_simp; (try (with_reducible rfl)))
  go_frame
  refine wpAnyH_takeD (some 22) (i := 9) (v := ?vh9) rfl rfl (by kernel_rfl) (by kernel_rfl) (by kernel_rfl) (fun _ _ _ h => h) (by rfl) ?hh9 (by assumption) ?_
  case hh9 => (intro wq hSw; (try dsimp only at hSw); go_simp; (try (with_reducible rfl)))
  go_frame
  refine wpAnyH_takeD (some 23) (i := 10) (v := ?vh10) rfl rfl (by kernel_rfl) (by kernel_rfl) (by kernel_rfl) (fun _ _ _ h => h) (by rfl) ?hh10 (by assumption) ?_
  case hh10 => (intro wq hSw; (try dsimp only at hSw); go_simp; (try (with_reducible rfl)))
  go_frame
  refine wpAnyH_takeD (some 24) (i := 11) (v := ?vh11) rfl rfl (by kernel_rfl) (by kernel_rfl) (by kernel_rfl) (fun _ _ _ h => h) (by rfl) ?hh11 (by assumption) ?_
  case hh11 => (intro wq hSw; (try dsimp only at hSw); go_simp; (try (with_reducible rfl)))
  go_frame
  refine wpAnyH_takeD (some 25) (i := 12) (v := ?vh12) rfl rfl (by kernel_rfl) (by kernel_rfl) (by kernel_rfl) (fun _ _ _ h => h) (by rfl) ?hh12 (by assumption) ?_
  case hh12 => (intro wq hSw; (try dsimp only at hSw); go_simp; (try (with_reducible rfl)))
  go_frame
  refine wpAnyH_takeD (some 26) (i := 13) (v := ?vh13) rfl rfl (by kernel_rfl) (by kernel_rfl) (by kernel_rfl) (fun _ _ _ h => h) (by rfl) ?hh13 (by assumption) ?_
  case hh13 => (intro wq hSw; (try dsimp only at hSw); go_simp; (try (with_reducible rfl)))
  go_frame
  refine wpAnyH_takeD (some 27) (i := 14) (v := ?vh14) rfl rfl (by kernel_rfl) (by kernel_rfl) (by kernel_rfl) (fun _ _ _ h => h) (by rfl) ?hh14 (by assumption) ?_
  case hh14 => (intro wq hSw; (try dsimp only at hSw); go_simp; (try (with_reducible rfl)))
  go_frame
  refine wpAnyH_takeD (some 28) (i := 15) (v := ?vh15) rfl rfl (by kernel_rfl) (by kernel_rfl) (by kernel_rfl) (fun _ _ _ h => h) (by rfl) ?hh15 (by assumption) ?_
  case hh15 => (intro wq hSw; (try dsimp only at hSw); go_simp; (try (with_reducible rfl)))
  go_frame
  refine wpAnyH_takeD (some 29) (i := 16) (v := ?vh16) rfl rfl (by kernel_rfl) (by kernel_rfl) (by kernel_rfl) (fun _ _ _ h => h) (by rfl) ?hh16 (by assumption) ?_
  case hh16 => (intro wq hSw; (try dsimp only at hSw); go_simp; (try (with_reducible rfl)))
  go_frame
  refine wpAnyH_takeD (some 30) (i := 17) (v := ?vh17) rfl rfl (by kernel_rfl) (by kernel_rfl) (by kernel_rfl) (fun _ _ _ h => h) (by rfl) ?hh17 (by assumption) ?_
  case hh17 => (intro wq hSw; (try dsimp only at hSw); go_simp; (try (with_reducible rfl)))
  go_frame
  refine wpAnyH_takeD (some 31) (i := 18) (v := ?vh18) rfl rfl (by kernel_rfl) (by kernel_rfl) (by kernel_rfl) (fun _ _ _ h => h) (by rfl) ?hh18 (by assumption) ?_
  case hh18 => (intro wq hSw; (try dsimp only at hSw); go_simp; (try (with_reducible rfl)))
  go_frame
  refine wpAnyH_takeD (some 32) (i := 19) (v := ?vh19) rfl rfl (by kernel_rfl) (by kernel_rfl) (by kernel_rfl) (fun _ _ _ h => h) (by rfl) ?hh19 (by assumption) ?_
  case hh19 => (intro wq hSw; (try dsimp only at hSw); go_simp; (try (with_reducible rfl)))
  go_frame
  refine wpAnyH_takeD (some 33) (i := 20) (v := ?vh20) rfl rfl (by kernel_rfl) (by kernel_rfl) (by kernel_rfl) (fun _ _ _ h => h) (by rfl) ?hh20 (by assumption) ?_
  case hh20 => (intro wq hSw; (try dsimp only at hSw); go_simp; (try (with_reducible rfl)))
  go_frame
  refine wpAnyH_takeD (some 34) (i := 21) (v := ?vh21) rfl rfl (by kernel_rfl) (by kernel_rfl) (by kernel_rfl) (fun _ _ _ h => h) (by rfl) ?hh21 (by assumption) ?_
  case hh21 => (intro wq hSw; (try dsimp only at hSw); go_simp; (try (with_reducible rfl)))
  go_frame
  refine wpAnyH_takeD (some 35) (i := 22) (v := ?vh22) rfl rfl (by kernel_rfl) (by kernel_rfl) (by kernel_rfl) (fun _ _ _ h => h) (by rfl) ?hh22 (by assumption) ?_
  case hh22 => (intro wq hSw; (try dsimp only at hSw); go_simp; (try (with_reducible rfl)))
  go_frame
  refine wpAnyH_takeD (some 36) (i := 23) (v := ?vh23) rfl rfl (by kernel_rfl) (by kernel_rfl) (by kernel_rfl) (fun _ _ _ h => h) (by rfl) ?hh23 (by assumption) ?_
  case hh23 => (intro wq hSw; (try dsimp only at hSw); go_simp; (try (with_reducible rfl)))
  go_frame
  refine wpAnyH_takeD (some 37) (i := 24) (v := ?vh24) rfl rfl (by kernel_rfl) (by kernel_rfl) (by kernel_rfl) (fun _ _ _ h => h) (by rfl) ?hh24 (by assumption) ?_
  case hh24 => (intro wq hSw; (try dsimp only at hSw); go_simp; (try (with_reducible rfl)))
  go_frame
  refine wpAnyH_takeD (some 38) (i := 25) (v := ?vh25) rfl rfl (by kernel_rfl) (by kernel_rfl) (by kernel_rfl) (fun _ _ _ h => h) (by rfl) ?hh25 (by assumption) ?_
  case hh25 => (intro wq hSw; (try dsimp only at hSw); go_simp; (try (with_reducible rfl)))
  go_frame
  refine wpAnyH_takeD (some 39) (i := 26) (v := ?vh26) rfl rfl (by kernel_rfl) (by kernel_rfl) (by kernel_rfl) (fun _ _ _ h => h) (by rfl) ?hh26 (by assumption) ?_
  case hh26 => (intro wq hSw; (try dsimp only at hSw); go_simp; (try (with_reducible rfl)))
  go_frame
  refine wpAnyH_takeD (some 40) (i := 27) (v := ?vh27) rfl rfl (by kernel_rfl) (by kernel_rfl) (by kernel_rfl) (fun _ _ _ h => h) (by rfl) ?hh27 (by assumption) ?_
  case hh27 => (intro wq hSw; (try dsimp only at hSw); go_simp; (try (with_reducible rfl)))
  go_frame
  refine wpAnyH_takeD (some 41) (i := 28) (v := ?vh28) rfl rfl (by kernel_rfl) (by kernel_rfl) (by kernel_rfl) (fun _ _ _ h => h) (by rfl) ?hh28 (by assumption) ?_
  case hh28 => (intro wq hSw; (try dsimp only at hSw); go_simp; (try (with_reducible rfl)))
  go_frame
  refine wpAnyH_takeD (some 42) (i := 29) (v := ?vh29) rfl rfl (by kernel_rfl) (by kernel_rfl) (by kernel_rfl) (fun _ _ _ h => h) (by rfl) ?hh29 (by assumption) ?_
  case hh29 => (intro wq hSw; (try dsimp only at hSw); go_simp; (try (with_reducible rfl)))
  go_frame
  refine wpAnyH_takeD (some 43) (i := 30) (v := ?vh30) rfl rfl (by kernel_rfl) (by kernel_rfl) (by kernel_rfl) (fun _ _ _ h => h) (by rfl) ?hh30 (by assumption) ?_
  case hh30 => (intro wq hSw; (try dsimp only at hSw); go_simp; (try (with_reducible rfl)))
  go_frame
  refine wpAnyH_ready (rs := [31]) (by kernel_rfl) (by simp) ?_
  refine AllReadyH.cons rfl (fun K hK => ?_) AllReadyH.nil
  go_simp
  refine hK.out _ _ (⟨(World.cell?_alloc_lt _ _ _ hlt).trans d0, (World.cell?_alloc_lt _ _ _ hlt).trans d1, (World.cell?_alloc_lt _ _ _ hlt).trans d2, (World.cell?_alloc_lt _ _ _ hlt).trans d3, (World.cell?_alloc_lt _ _ _ hlt).trans d4, (World.cell?_alloc_lt _ _ _ hlt).trans d5, (World.cell?_alloc_lt _ _ _ hlt).trans d6⟩) (fun hHeld => ?_)
  clear hK K
  try go_frame
  refine wpAnyH_ready (rs := [32]) (by kernel_rfl) (by simp) ?_
  refine AllReadyH.cons rfl (fun K hK => ?_) AllReadyH.nil
  rw [if_pos (by rfl)]
  refine wp_store_blk 41 (.tmp 4) (.tmp 43) rfl W.heap.size (⟨(b0.toNat : Int), (b1.toNat : Int), (b2.toNat : Int), (b3.toNat : Int), (b4.toNat : Int), (sp : Int), Nm.zero, Nm.zero⟩ : Vt).cells rfl rfl 41 zeroVc (Blk.new W.drew _ _) rfl size_vote (fun u hu => one_vt (⟨(b0.toNat : Int), (b1.toNat : Int), (b2.toNat : Int), (b3.toNat : Int), (b4.toNat : Int), (sp : Int), Nm.zero, Nm.zero⟩ : Vt) hu) rfl ?_; intro w1 hV1 hg1 hs1
  refine hK.out _ _ (⟨(World.cell?_of_block (a := ⟨b, o, none⟩) (hg1.block b (by simp; omega) (by simp; omega))).trans ((World.cell?_alloc_lt _ _ _ hlt).trans d0), (World.cell?_of_block (a := ⟨b, o + 1, none⟩) (hg1.block b (by simp; omega) (by simp; omega))).trans ((World.cell?_alloc_lt _ _ _ hlt).trans d1), (World.cell?_of_block (a := ⟨b, o + 2, none⟩) (hg1.block b (by simp; omega) (by simp; omega))).trans ((World.cell?_alloc_lt _ _ _ hlt).trans d2), (World.cell?_of_block (a := ⟨b, o + 3, none⟩) (hg1.block b (by simp; omega) (by simp; omega))).trans ((World.cell?_alloc_lt _ _ _ hlt).trans d3), (World.cell?_of_block (a := ⟨b, o + 4, none⟩) (hg1.block b (by simp; omega) (by simp; omega))).trans ((World.cell?_alloc_lt _ _ _ hlt).trans d4), (World.cell?_of_block (a := ⟨b, o + 5, none⟩) (hg1.block b (by simp; omega) (by simp; omega))).trans ((World.cell?_alloc_lt _ _ _ hlt).trans d5), (World.cell?_of_block (a := ⟨b, o + 6, none⟩) (hg1.block b (by simp; omega) (by simp; omega))).trans ((World.cell?_alloc_lt _ _ _ hlt).trans d6)⟩) (fun hHeld => ?_)
  clear hK K
  try go_frame
  refine wpAnyH_done (by kernel_rfl) ?_ _
  refine NoPanic.normal ?_
  clear hHeld d0 d1 d2 d3 d4 d5 d6
  have hR1 : Blk w1 w.heap.size 41 zeroVc := (hR.drew.alloc _).kept hg1 (by have := hR.lt; simp; omega)
  have hbw1 : Below w.heap.size w w1 := (hbW.drew.alloc hbW.size _).grown hg1 (by have := hbW.size; simp; omega) (by rintro j ⟨⟩; exact hbW.size)
  have hWl := hR.lt
  clear hR hbW hg1 hs1 hw0 hw1 hw2 hw3 hw4 hw5 hw6 hw7 hor
  have i1 : (23 : Int) ≤ (c : Int) := by omega
  have i2 : ¬ c = 7 := by omega
  have i3 : ¬ c = 15 := by omega
  have i4 : (15 : Int) ≤ (c : Int) := by omega
  go_wp2
  refine wp_region_still_tail 4 (by kernel_rfl) (by kernel_rfl) ?_
  simp only [List.take_succ_cons, List.take_zero, List.drop_succ_cons, List.drop_zero]
  iterate 4 still_step
  refine wpStill_nil ?_
  change wpList _ _ _ _ _ w1.drew
  refine wpList_copy_splice rfl (.tmp 45) (.tmp 47) _ _ rfl 5 Try.underlying23 (by kernel_rfl) _ _ _ _ _ _ rfl rfl W.heap.size 6 (Vt.cells (⟨(b0.toNat : Int), (b1.toNat : Int), (b2.toNat : Int), (b3.toNat : Int), (b4.toNat : Int), (sp : Int), Nm.zero, Nm.zero⟩ : Vt)).toList 41 hV1.drew (nmc p) ?c11 ?c12 ?c13 ?c14 W.heap.size w1.drew (Below.refl _ _) (Nat.le_refl _) ?_
  case c11 => rfl
  case c12 =>
    intro _
    refine ⟨rfl, _, rfl, fun j v hv => ?_⟩
    rw [Addr.add_mid]
    exact ((hbw1.drew).cell (p := ⟨b, o + 7 + j, none⟩) hb).trans (HP.out j v hv)
  case c13 => simp
  case c14 => exact fun u hu => bytes_one (l := p.bytes) (by simpa [Nm.bytes] using hu)
  intro w2 hg2 hb2
  have hV2 : Blk w2 W.heap.size 41 (Vt.cells { (⟨(b0.toNat : Int), (b1.toNat : Int), (b2.toNat : Int), (b3.toNat : Int), (b4.toNat : Int), (sp : Int), Nm.zero, Nm.zero⟩ : Vt) with parent := p }) := hg2.out
  have hR2 := (hR1.drew).below hb2 hWl
  have hbw2 : Below w.heap.size w w2 := (hbw1.drew).trans (hb2.mono (by omega))
  clear hV1 hR1 hbw1 hb2 hg2
  go_frame
  go_wp2
  refine wp_region_still_tail 4 (by kernel_rfl) (by kernel_rfl) ?_
  simp only [List.take_succ_cons, List.take_zero, List.drop_succ_cons, List.drop_zero]
  iterate 4 still_step
  refine wpStill_nil ?_
  change wpList _ _ _ _ _ w2.drew
  refine wpList_copy_splice rfl (.tmp 50) (.tmp 52) _ _ rfl 5 Try.underlying23 (by kernel_rfl) _ _ _ _ _ _ rfl rfl W.heap.size 14 (Vt.cells { (⟨(b0.toNat : Int), (b1.toNat : Int), (b2.toNat : Int), (b3.toNat : Int), (b4.toNat : Int), (sp : Int), Nm.zero, Nm.zero⟩ : Vt) with parent := p }).toList 41 hV2.drew (nmc q) ?c21 ?c22 ?c23 ?c24 W.heap.size w2.drew (Below.refl _ _) (Nat.le_refl _) ?_
  case c21 => rfl
  case c22 =>
    intro _
    refine ⟨rfl, _, rfl, fun j v hv => ?_⟩
    rw [Addr.add_mid]
    exact ((hbw2.drew).cell (p := ⟨b, o + 15 + j, none⟩) hb).trans (HQ.out j v hv)
  case c23 => simp
  case c24 => exact fun u hu => bytes_one (l := q.bytes) (by simpa [Nm.bytes] using hu)
  intro w3 hg3 hb3
  have hV3 : Blk w3 W.heap.size 41 V.cells := by rw [HE.out]; exact hg3.out
  have hR3 := (hR2.drew).below hb3 hWl
  have hbw3 : Below w.heap.size w w3 := (hbw2.drew).trans (hb3.mono (by omega))
  clear hV2 hR2 hbw2 hb3 hg3
  go_frame
  have x0 := hV3.row 22 rfl
  have hl3 := hV3.lt
  go_wp2_with fail
  refine (HV.out _).mono ?_
  rintro en w4 ⟨rfl, hb4⟩
  have hV4 := hV3.below hb4 hV3.lt
  have hR4 := hR3.below hb4 hR3.lt
  have hbw4 := hbw3.trans (hb4.mono hbw3.size)
  clear hV3 hR3 hbw3 hb4 x0
  have x4 := hV4.row 22 rfl
  go_wp2_with (refine wpList_store_blk rfl 41 (.tmp 2) (.tmp 57) rfl w.heap.size _ rfl rfl 41 _ hR4 rfl size_vote ?s9 ?_)
  case s9 => exact ⟨rfl, rfl⟩
  intro w5 hR5 hg5 hs5
  go_wp2
  exact bodyPost_ret (results_row_tmp (g := w.heap.size) (cs := zeroVc) rfl _ _ _ _ _ rfl hR5 Try.underlying41 rfl size_vote) rfl ⟨rfl, hbw4.grown hg5 hbw4.size (by rintro j ⟨⟩; omega)⟩

theorem vdec_any (A : Option Addr) (c : Nat) (l : List UInt8) (w : World) (hr : Rd w w.heap.size A (l.map B)) (hc : l.length ≤ c) (hm : c ≤ maxLen) :
    Calls Try.prog 84 #[.slice A l.length c] w (VDecPost w (decVote l).1 (decVote l).2) := by
  unfold decVote
  by_cases h1 : l.length < 23
  · rw [if_pos h1]; exact vdec_short A l.length c w h1
  · by_cases h2 : 23 < l.length
    · rw [if_neg h1, if_pos h2]; exact vdec_long A l.length c w h2
    · have h23 : l.length = 23 := by omega
      obtain ⟨b, o, rfl, hb, hcell⟩ := hr.cells (by intro e; rw [List.map_eq_nil_iff] at e; subst e; simp at h23)
      have key : ∀ j, j < 23 → w.cell? ⟨b, o + j, none⟩ = some (B (l.getD j 0)) := fun j hj => hcell j _ (by rw [List.getElem?_map, getD_some 0 (by omega)]; rfl)
      have kp : ∀ k, k + 8 ≤ 23 → ∀ j u, (nmc (Nm.ofList (l.drop k)))[j]? = some u → w.cell? ⟨b, o + k + j, none⟩ = some u := fun k hk j u hu => by
        rw [ofList_cells _ (by simp; omega)] at hu
        rw [Nat.add_assoc]
        refine hcell _ u ?_
        rw [List.map_take, List.getElem?_take] at hu
        split at hu
        · rw [← hu, List.map_drop, List.getElem?_drop]
        · cases hu
      have hu : ∀ W, Below w.heap.size w W → Calls Try.prog 117 #[.slice (some ⟨b, o, none⟩) l.length c, .int .i64 5, .int .i64 2] W fun e w' => e = .returned (.tuple #[.int .u64 (((l.getD 5 0).toNat * 256 + (l.getD 6 0).toNat : Nat) : Int), .bool true]) ∧ w' = W := fun W hW => by
        have h := uint_yes (some ⟨b, o, none⟩) c 5 2 l W ((hr.below hW).more hW.size) (by omega) hc hm (by omega) (by omega) (by omega)
        have e : numN ((l.drop 5).take 2) = (l.getD 5 0).toNat * 256 + (l.getD 6 0).toNat := by
          have := num2 (l.drop 5) (by simp; omega)
          simpa [leafN] using this
        rw [e] at h
        exact h
      rw [if_neg h1, if_neg h2]
      rw [h23] at hu hc ⊢
      by_cases hy : ValidP (decV l)
      · rw [if_pos hy]
        exact vdec_yes b o c _ _ _ _ _ _ _ _ _ _ (decV l) w hc hm hb (key 0 (by omega)) (key 1 (by omega)) (key 2 (by omega)) (key 3 (by omega)) (key 4 (by omega)) (key 5 (by omega)) (key 6 (by omega)) (kp 7 (by omega)) (kp 15 (by omega)) rfl rfl (decV_ok l) hy hu
      · rw [if_neg hy]
        exact vdec_bad b o c _ _ _ _ _ _ _ _ _ _ (decV l) w hc hm hb (key 0 (by omega)) (key 1 (by omega)) (key 2 (by omega)) (key 3 (by omega)) (key 4 (by omega)) (key 5 (by omega)) (key 6 (by omega)) (kp 7 (by omega)) (kp 15 (by omega)) rfl rfl (decV_ok l) hy hu
theorem rvdec_any (A : Option Addr) (c : Nat) (l : List UInt8) (w : World) (hr : Rd w w.heap.size A (l.map B)) (hc : l.length ≤ c) (hm : c ≤ maxLen) :
    Calls Try.prog 85 #[.slice A l.length c] w (VDecPost w (decVote l).1 (decVote l).2) := by
  unfold decVote
  by_cases h1 : l.length < 23
  · rw [if_pos h1]; exact rvdec_short A l.length c w h1
  · by_cases h2 : 23 < l.length
    · rw [if_neg h1, if_pos h2]; exact rvdec_long A l.length c w h2
    · have h23 : l.length = 23 := by omega
      obtain ⟨b, o, rfl, hb, hcell⟩ := hr.cells (by intro e; rw [List.map_eq_nil_iff] at e; subst e; simp at h23)
      have key : ∀ j, j < 23 → w.cell? ⟨b, o + j, none⟩ = some (B (l.getD j 0)) := fun j hj => hcell j _ (by rw [List.getElem?_map, getD_some 0 (by omega)]; rfl)
      have kp : ∀ k, k + 8 ≤ 23 → ∀ j u, (nmc (Nm.ofList (l.drop k)))[j]? = some u → w.cell? ⟨b, o + k + j, none⟩ = some u := fun k hk j u hu => by
        rw [ofList_cells _ (by simp; omega)] at hu
        rw [Nat.add_assoc]
        refine hcell _ u ?_
        rw [List.map_take, List.getElem?_take] at hu
        split at hu
        · rw [← hu, List.map_drop, List.getElem?_drop]
        · cases hu
      rw [if_neg h1, if_neg h2]
      rw [h23] at hc ⊢
      by_cases hy : ValidP (decV l)
      · rw [if_pos hy]
        exact rvdec_yes b o c _ _ _ _ _ _ _ _ _ _ (decV l) w hc hm hb (key 0 (by omega)) (key 1 (by omega)) (key 2 (by omega)) (key 3 (by omega)) (key 4 (by omega)) (key 5 (by omega)) (key 6 (by omega)) (kp 7 (by omega)) (kp 15 (by omega)) rfl rfl (decV_ok l) hy
      · rw [if_neg hy]
        exact rvdec_bad b o c _ _ _ _ _ _ _ _ _ _ (decV l) w hc hm hb (key 0 (by omega)) (key 1 (by omega)) (key 2 (by omega)) (key 3 (by omega)) (key 4 (by omega)) (key 5 (by omega)) (key 6 (by omega)) (kp 7 (by omega)) (kp 15 (by omega)) rfl rfl (decV_ok l) hy
end Go.Proofs.Ythmecidpjlaonaa
