/-
  vote.Decode and the reference's Decode return the vote that 23 bytes spell, or an error (decVote), and change nothing that was there. Condition: the bytes lie in memory below the call.
  signed.Decode and the reference's DecodeSigned return the signed vote that 393 bytes spell, or an error, and change nothing that was there. Condition: the bytes lie in memory below the call.
  evidence.Decode and the reference's DecodeEvidence return the pair that 786 bytes spell, or an error, and change nothing that was there. Condition: the bytes lie in memory below the call.
  checker.fault returns the first error of an element (faultF), and changes nothing that was there. Condition: keys and pair lie in memory below the call.
  Plain mathematics of the checker: what a proof's bytes answer (checkF). No condition.
  The sanity check of layer 10's statements returns true and changes nothing. No condition.
  checker.Check returns the set and the error that a proof's bytes answer (checkF), and changes nothing that was there. Condition: keys and proof lie in memory below the call.
  signed.Encode, signed.Decode and the reference's, in one contract each; what is encoded is decoded again. Condition: the arguments lie in memory below the call.
  The law CheckerBuilds returns true and changes nothing that was there. Condition: its list lies in memory below the call.
  Plain mathematics: the proof with what is found is accepted and names the guilty; its beginnings are short, and with a byte more it is long. No condition.
-/
import Derived.Test.YthmecidpjlaonaaGreatSGDefs
import Derived.Test.YthmecidpjlaonaaGreatSBuild
import Derived.IntWalk
import Derived.Laws.IdiomStrings
import Derived.Laws.BytesArg
import Derived.WalkMore
import Derived.ScopeJumps
import Derived.Test.YthmecidpjlaonaaGreatSGPCan
import Derived.Test.YthmecidpjlaonaaGreatSGFoundP
namespace Go.Proofs.YthmecidpjlaonaaGreat
open Go.RowKit
attribute [local go_sem ↓] Go.wp_at_zero Go.wp_at_succ loadNm loadVt loadSg loadEv
attribute [local go_sem] runNm runVt runSg runEv pickRow_some rowAt_drew rowAt_drewN
/-- The call returns a vote and an error number. -/
def VDecPost (w : World) (v : Vt) (n : Int) (e : Ending) (w' : World) : Prop := e = .returned (.tuple #[v.val, .int .i64 n]) ∧ Below w.heap.size w w'
set_option maxRecDepth 100000 in
set_option maxHeartbeats 2000000 in
theorem vdec_short (A : Option Addr) (n c : Nat) (w : World) (h : n < 23) : Calls Tryz.prog 123 #[.slice A n c] w (VDecPost w zeroV 2) := by
  have hR : Blk (w.alloc (Obj.cells zeroVc 31)) w.heap.size 31 zeroVc := Blk.new w _ _
  go_enter Tryz.func123, Tryz.ntmps123
  go_wp2_with (refine wpList_store_blk rfl 31 (.tmp 2) (.tmp 11) rfl w.heap.size _ rfl rfl 31 _ hR rfl size_vote ?s1 ?_)
  case s1 => exact ⟨rfl, rfl⟩
  intro w1 hR1 hg1 hs1
  go_wp2
  exact bodyPost_ret (results_row_tmp (g := w.heap.size) (cs := zeroVc) rfl _ _ _ _ _ rfl hR1 Tryz.underlying31 rfl size_vote) rfl ⟨rfl, ((Below.refl _ _).alloc (Nat.le_refl _) _).grown hg1 (by simp) (by rintro j ⟨⟩; omega)⟩

set_option maxRecDepth 100000 in
set_option maxHeartbeats 2000000 in
theorem vdec_long (A : Option Addr) (n c : Nat) (w : World) (h : 23 < n) : Calls Tryz.prog 123 #[.slice A n c] w (VDecPost w zeroV 3) := by
  have hR : Blk (w.alloc (Obj.cells zeroVc 31)) w.heap.size 31 zeroVc := Blk.new w _ _
  go_enter Tryz.func123, Tryz.ntmps123
  go_wp2_with (refine wpList_store_blk rfl 31 (.tmp 2) (.tmp 16) rfl w.heap.size _ rfl rfl 31 _ hR rfl size_vote ?s1 ?_)
  case s1 => exact ⟨rfl, rfl⟩
  intro w1 hR1 hg1 hs1
  go_wp2
  exact bodyPost_ret (results_row_tmp (g := w.heap.size) (cs := zeroVc) rfl _ _ _ _ _ rfl hR1 Tryz.underlying31 rfl size_vote) rfl ⟨rfl, ((Below.refl _ _).alloc (Nat.le_refl _) _).grown hg1 (by simp) (by rintro j ⟨⟩; omega)⟩

set_option maxRecDepth 100000 in
set_option maxHeartbeats 4000000 in
theorem vdec_yes (b o c : Nat) (b0 b1 b2 b3 b4 b5 b6 : UInt8) (sp : Nat) (p q : Nm) (V : Vt) (w : World) (hc : 23 ≤ c) (hm : c ≤ maxLen) (hb : b < w.heap.size) (c0 : w.cell? ⟨b, o, none⟩ = some (B b0)) (c1 : w.cell? ⟨b, o + 1, none⟩ = some (B b1)) (c2 : w.cell? ⟨b, o + 2, none⟩ = some (B b2)) (c3 : w.cell? ⟨b, o + 3, none⟩ = some (B b3)) (c4 : w.cell? ⟨b, o + 4, none⟩ = some (B b4)) (c5 : w.cell? ⟨b, o + 5, none⟩ = some (B b5)) (c6 : w.cell? ⟨b, o + 6, none⟩ = some (B b6))
    (hp : ∀ j u, (nmc p)[j]? = some u → w.cell? ⟨b, o + 7 + j, none⟩ = some u) (hq : ∀ j u, (nmc q)[j]? = some u → w.cell? ⟨b, o + 15 + j, none⟩ = some u)
    (hV : V = ⟨(b0.toNat : Int), (b1.toNat : Int), (b2.toNat : Int), (b3.toNat : Int), (b4.toNat : Int), (sp : Int), p, q⟩) (hsp : sp = b5.toNat * 256 + b6.toNat) (hok : V.ok) (hy : ValidP V)
    (hu : ∀ W, Below w.heap.size w W → Calls Tryz.prog 129 #[.slice (some ⟨b, o, none⟩) 23 c, .int .i64 5, .int .i64 2] W fun e w' => e = .returned (.tuple #[.int .u64 (sp : Int), .bool true]) ∧ w' = W) :
    Calls Tryz.prog 123 #[.slice (some ⟨b, o, none⟩) 23 c] w (VDecPost w V 0) := by
  have HV := Lib.hid (fun W => valid_yes V W hok hy)
  have HU := Lib.hid hu; clear hu
  have HP := Lib.hid hp; clear hp
  have HQ := Lib.hid hq; clear hq
  have HE := Lib.hid hV
  clear hV hok hy
  unfold maxLen at hm
  have hspl : sp ≤ 65535 := by have := b5.toNat_lt; have := b6.toNat_lt; omega
  have HSP := Lib.hid hsp; clear hsp
  have t0 := b0.toNat_lt; have t1 := b1.toNat_lt; have t2 := b2.toNat_lt; have t3 := b3.toNat_lt; have t4 := b4.toNat_lt; have t5 := b5.toNat_lt; have t6 := b6.toNat_lt
  go_enter Tryz.func123, Tryz.ntmps123
  go_upto_region 6 with ((go_at_call 129; refine (HU.out _ ((Below.refl _ _).alloc (Nat.le_refl _) _)).mono ?_; rintro en w' ⟨rfl, rfl⟩))
  have hR : Blk (w.alloc (Obj.cells zeroVc 31)) w.heap.size 31 zeroVc := Blk.new w _ _
  have hbW : Below w.heap.size w (w.alloc (Obj.cells zeroVc 31)) := (Below.refl _ _).alloc (Nat.le_refl _) _
  have hlt : b < (w.alloc (Obj.cells zeroVc 31)).heap.size := by simp; omega
  have d0 : (w.alloc (Obj.cells zeroVc 31)).cell? ⟨b, o, none⟩ = some (B b0) := (World.cell?_alloc_lt _ _ _ hb).trans c0
  have d1 : (w.alloc (Obj.cells zeroVc 31)).cell? ⟨b, o + 1, none⟩ = some (B b1) := (World.cell?_alloc_lt _ _ _ hb).trans c1
  have d2 : (w.alloc (Obj.cells zeroVc 31)).cell? ⟨b, o + 2, none⟩ = some (B b2) := (World.cell?_alloc_lt _ _ _ hb).trans c2
  have d3 : (w.alloc (Obj.cells zeroVc 31)).cell? ⟨b, o + 3, none⟩ = some (B b3) := (World.cell?_alloc_lt _ _ _ hb).trans c3
  have d4 : (w.alloc (Obj.cells zeroVc 31)).cell? ⟨b, o + 4, none⟩ = some (B b4) := (World.cell?_alloc_lt _ _ _ hb).trans c4
  have d5 : (w.alloc (Obj.cells zeroVc 31)).cell? ⟨b, o + 5, none⟩ = some (B b5) := (World.cell?_alloc_lt _ _ _ hb).trans c5
  have d6 : (w.alloc (Obj.cells zeroVc 31)).cell? ⟨b, o + 6, none⟩ = some (B b6) := (World.cell?_alloc_lt _ _ _ hb).trans c6
  clear c0 c1 c2 c3 c4 c5 c6
  generalize (w.alloc (Obj.cells zeroVc 31)) = W at *
  have hw0 : IntKind.i64.wrap (b0.toNat : Int) = (b0.toNat : Int) := IntWalk.i64_in _ (by omega)
  have hw1 : IntKind.i64.wrap (b1.toNat : Int) = (b1.toNat : Int) := IntWalk.i64_in _ (by omega)
  have hw2 : IntKind.i64.wrap (b2.toNat : Int) = (b2.toNat : Int) := IntWalk.i64_in _ (by omega)
  have hw3 : IntKind.i64.wrap (b3.toNat : Int) = (b3.toNat : Int) := IntWalk.i64_in _ (by omega)
  have hw4 : IntKind.i64.wrap (b4.toNat : Int) = (b4.toNat : Int) := IntWalk.i64_in _ (by omega)
  have hw5 : IntKind.i64.wrap (b5.toNat : Int) = (b5.toNat : Int) := IntWalk.i64_in _ (by omega)
  have hw6 : IntKind.i64.wrap (b6.toNat : Int) = (b6.toNat : Int) := IntWalk.i64_in _ (by omega)
  have hw7 : IntKind.i64.wrap (sp : Int) = (sp : Int) := IntWalk.i64_in _ (by omega)
  clear t0 t1 t2 t3 t4 t5 t6
  refine wp_region_noPanic ?_
  refine wp_region_held_drew (S := fun w' => w'.cell? ⟨b, o, none⟩ = some (B b0) ∧ w'.cell? ⟨b, o + 1, none⟩ = some (B b1) ∧ w'.cell? ⟨b, o + 2, none⟩ = some (B b2) ∧ w'.cell? ⟨b, o + 3, none⟩ = some (B b3) ∧ w'.cell? ⟨b, o + 4, none⟩ = some (B b4) ∧ w'.cell? ⟨b, o + 5, none⟩ = some (B b5) ∧ w'.cell? ⟨b, o + 6, none⟩ = some (B b6)) (by kernel_rfl) (⟨d0, d1, d2, d3, d4, d5, d6⟩) (fun hHeld => ?_)
  refine wpAnyH_takeD (some 22) (i := 0) (v := ?vh0) rfl rfl (by kernel_rfl) (by kernel_rfl) (by kernel_rfl) (fun _ _ _ h => h) (by rfl) ?hh0 (by assumption) ?_
  case hh0 => (intro wq hSw; (try dsimp only at hSw); go_simp; (try (with_reducible rfl)))
  go_frame
  refine wpAnyH_takeD (some 23) (i := 1) (v := ?vh1) rfl rfl (by kernel_rfl) (by kernel_rfl) (by kernel_rfl) (fun _ _ _ h => h) (by rfl) ?hh1 (by assumption) ?_
  case hh1 => (intro wq hSw; (try dsimp only at hSw); go_simp; (try (with_reducible rfl)))
  go_frame
  refine wpAnyH_takeD (some 24) (i := 2) (v := ?vh2) rfl rfl (by kernel_rfl) (by kernel_rfl) (by kernel_rfl) (fun _ _ _ h => h) (by rfl) ?hh2 (by assumption) ?_
  case hh2 => (intro wq hSw; (try dsimp only at hSw); go_simp; (try (with_reducible rfl)))
  go_frame
  refine wpAnyH_takeD (some 25) (i := 3) (v := ?vh3) rfl rfl (by kernel_rfl) (by kernel_rfl) (by kernel_rfl) (fun _ _ _ h => h) (by rfl) ?hh3 (by assumption) ?_
  case hh3 => (intro wq hSw; (try dsimp only at hSw); go_simp; (try (with_reducible rfl)))
  go_frame
  refine wpAnyH_takeD (some 26) (i := 4) (v := ?vh4) rfl rfl (by kernel_rfl) (by kernel_rfl) (by kernel_rfl) (fun _ _ _ h => h) (by rfl) ?hh4 (by assumption) ?_
  case hh4 => (intro wq hSw; (try dsimp only at hSw); go_simp; (try (with_reducible rfl)))
  go_frame
  refine wpAnyH_takeD (some 27) (i := 5) (v := ?vh5) rfl rfl (by kernel_rfl) (by kernel_rfl) (by kernel_rfl) (fun _ _ _ h => h) (by rfl) ?hh5 (by assumption) ?_
  case hh5 => (intro wq hSw; (try dsimp only at hSw); go_simp; (try (with_reducible rfl)))
  go_frame
  refine wpAnyH_takeD (some 28) (i := 6) (v := ?vh6) rfl rfl (by kernel_rfl) (by kernel_rfl) (by kernel_rfl) (fun _ _ _ h => h) (by rfl) ?hh6 (by assumption) ?_
  case hh6 => (intro wq hSw; (try dsimp only at hSw); go_simp; (try (with_reducible rfl)))
  go_frame
  refine wpAnyH_takeD (some 29) (i := 7) (v := ?vh7) rfl rfl (by kernel_rfl) (by kernel_rfl) (by kernel_rfl) (fun _ _ _ h => h) (by rfl) ?hh7 (by assumption) ?_
  case hh7 => (intro wq hSw; (try dsimp only at hSw); go_simp; (try (with_reducible rfl)))
  go_frame
  refine wpAnyH_takeD (some 30) (i := 8) (v := ?vh8) rfl rfl (by kernel_rfl) (by kernel_rfl) (by kernel_rfl) (fun _ _ _ h => h) (by rfl) ?hh8 (by assumption) ?_
  case hh8 => (intro wq hSw; (try dsimp only at hSw); go_simp; (try (with_reducible rfl)))
  go_frame
  refine wpAnyH_takeD (some 31) (i := 9) (v := ?vh9) rfl rfl (by kernel_rfl) (by kernel_rfl) (by kernel_rfl) (fun _ _ _ h => h) (by rfl) ?hh9 (by assumption) ?_
  case hh9 => (intro wq hSw; (try dsimp only at hSw); go_simp; (try (with_reducible rfl)))
  go_frame
  refine wpAnyH_takeD (some 32) (i := 10) (v := ?vh10) rfl rfl (by kernel_rfl) (by kernel_rfl) (by kernel_rfl) (fun _ _ _ h => h) (by rfl) ?hh10 (by assumption) ?_
  case hh10 => (intro wq hSw; (try dsimp only at hSw); go_simp; (try (with_reducible rfl)))
  go_frame
  refine wpAnyH_takeD (some 33) (i := 11) (v := ?vh11) rfl rfl (by kernel_rfl) (by kernel_rfl) (by kernel_rfl) (fun _ _ _ h => h) (by rfl) ?hh11 (by assumption) ?_
  case hh11 => (intro wq hSw; (try dsimp only at hSw); go_simp; (try (with_reducible rfl)))
  go_frame
  refine wpAnyH_takeD (some 34) (i := 12) (v := ?vh12) rfl rfl (by kernel_rfl) (by kernel_rfl) (by kernel_rfl) (fun _ _ _ h => h) (by rfl) ?hh12 (by assumption) ?_
  case hh12 => (intro wq hSw; (try dsimp only at hSw); go_simp; (try (with_reducible rfl)))
  go_frame
  refine wpAnyH_takeD (some 35) (i := 13) (v := ?vh13) rfl rfl (by kernel_rfl) (by kernel_rfl) (by kernel_rfl) (fun _ _ _ h => h) (by rfl) ?hh13 (by assumption) ?_
  case hh13 => (intro wq hSw; (try dsimp only at hSw); go_simp; (try (with_reducible rfl)))
  go_frame
  refine wpAnyH_takeD (some 36) (i := 14) (v := ?vh14) rfl rfl (by kernel_rfl) (by kernel_rfl) (by kernel_rfl) (fun _ _ _ h => h) (by rfl) ?hh14 (by assumption) ?_
  case hh14 => (intro wq hSw; (try dsimp only at hSw); go_simp; (try (with_reducible rfl)))
  go_frame
  refine wpAnyH_takeD (some 37) (i := 15) (v := ?vh15) rfl rfl (by kernel_rfl) (by kernel_rfl) (by kernel_rfl) (fun _ _ _ h => h) (by rfl) ?hh15 (by assumption) ?_
  case hh15 => (intro wq hSw; (try dsimp only at hSw); go_simp; (try (with_reducible rfl)))
  go_frame
  refine wpAnyH_takeD (some 38) (i := 16) (v := ?vh16) rfl rfl (by kernel_rfl) (by kernel_rfl) (by kernel_rfl) (fun _ _ _ h => h) (by rfl) ?hh16 (by assumption) ?_
  case hh16 => (intro wq hSw; (try dsimp only at hSw); go_simp; (try (with_reducible rfl)))
  go_frame
  refine wpAnyH_takeD (some 39) (i := 17) (v := ?vh17) rfl rfl (by kernel_rfl) (by kernel_rfl) (by kernel_rfl) (fun _ _ _ h => h) (by rfl) ?hh17 (by assumption) ?_
  case hh17 => (intro wq hSw; (try dsimp only at hSw); go_simp; (try (with_reducible rfl)))
  go_frame
  refine wpAnyH_takeD (some 40) (i := 18) (v := ?vh18) rfl rfl (by kernel_rfl) (by kernel_rfl) (by kernel_rfl) (fun _ _ _ h => h) (by rfl) ?hh18 (by assumption) ?_
  case hh18 => (intro wq hSw; (try dsimp only at hSw); go_simp; (try (with_reducible rfl)))
  go_frame
  refine wpAnyH_takeD (some 41) (i := 19) (v := ?vh19) rfl rfl (by kernel_rfl) (by kernel_rfl) (by kernel_rfl) (fun _ _ _ h => h) (by rfl) ?hh19 (by assumption) ?_
  case hh19 => (intro wq hSw; (try dsimp only at hSw); go_simp; (try (with_reducible rfl)))
  go_frame
  refine wpAnyH_takeD (some 42) (i := 20) (v := ?vh20) rfl rfl (by kernel_rfl) (by kernel_rfl) (by kernel_rfl) (fun _ _ _ h => h) (by rfl) ?hh20 (by assumption) ?_
  case hh20 => (intro wq hSw; (try dsimp only at hSw); go_simp; (try (with_reducible rfl)))
  go_frame
  refine wpAnyH_takeD (some 43) (i := 21) (v := ?vh21) rfl rfl (by kernel_rfl) (by kernel_rfl) (by kernel_rfl) (fun _ _ _ h => h) (by rfl) ?hh21 (by assumption) ?_
  case hh21 => (intro wq hSw; (try dsimp only at hSw); go_simp; (try (with_reducible rfl)))
  go_frame
  refine wpAnyH_takeD (some 44) (i := 22) (v := ?vh22) rfl rfl (by kernel_rfl) (by kernel_rfl) (by kernel_rfl) (fun _ _ _ h => h) (by rfl) ?hh22 (by assumption) ?_
  case hh22 => (intro wq hSw; (try dsimp only at hSw); go_simp; (try (with_reducible rfl)))
  go_frame
  refine wpAnyH_ready (rs := [23]) (by kernel_rfl) (by simp) ?_
  refine AllReadyH.cons rfl (fun K hK => ?_) AllReadyH.nil
  go_simp
  refine hK.out _ _ (⟨(World.cell?_alloc_lt _ _ _ hlt).trans d0, (World.cell?_alloc_lt _ _ _ hlt).trans d1, (World.cell?_alloc_lt _ _ _ hlt).trans d2, (World.cell?_alloc_lt _ _ _ hlt).trans d3, (World.cell?_alloc_lt _ _ _ hlt).trans d4, (World.cell?_alloc_lt _ _ _ hlt).trans d5, (World.cell?_alloc_lt _ _ _ hlt).trans d6⟩) (fun hHeld => ?_)
  clear hK K
  try go_frame
  refine wpAnyH_ready (rs := [24]) (by kernel_rfl) (by simp) ?_
  refine AllReadyH.cons rfl (fun K hK => ?_) AllReadyH.nil
  rw [if_pos (by rfl)]
  refine wp_store_blk 31 (.tmp 6) (.tmp 44) rfl W.heap.size (⟨(b0.toNat : Int), (b1.toNat : Int), (b2.toNat : Int), (b3.toNat : Int), (b4.toNat : Int), (sp : Int), Nm.zero, Nm.zero⟩ : Vt).cells rfl rfl 31 zeroVc (Blk.new W.drew _ _) rfl size_vote (fun u hu => one_vt (⟨(b0.toNat : Int), (b1.toNat : Int), (b2.toNat : Int), (b3.toNat : Int), (b4.toNat : Int), (sp : Int), Nm.zero, Nm.zero⟩ : Vt) hu) rfl ?_; intro w1 hV1 hg1 hs1
  refine hK.out _ _ (⟨(World.cell?_of_block (a := ⟨b, o, none⟩) (hg1.block b (by simp; omega) (by simp; omega))).trans ((World.cell?_alloc_lt _ _ _ hlt).trans d0), (World.cell?_of_block (a := ⟨b, o + 1, none⟩) (hg1.block b (by simp; omega) (by simp; omega))).trans ((World.cell?_alloc_lt _ _ _ hlt).trans d1), (World.cell?_of_block (a := ⟨b, o + 2, none⟩) (hg1.block b (by simp; omega) (by simp; omega))).trans ((World.cell?_alloc_lt _ _ _ hlt).trans d2), (World.cell?_of_block (a := ⟨b, o + 3, none⟩) (hg1.block b (by simp; omega) (by simp; omega))).trans ((World.cell?_alloc_lt _ _ _ hlt).trans d3), (World.cell?_of_block (a := ⟨b, o + 4, none⟩) (hg1.block b (by simp; omega) (by simp; omega))).trans ((World.cell?_alloc_lt _ _ _ hlt).trans d4), (World.cell?_of_block (a := ⟨b, o + 5, none⟩) (hg1.block b (by simp; omega) (by simp; omega))).trans ((World.cell?_alloc_lt _ _ _ hlt).trans d5), (World.cell?_of_block (a := ⟨b, o + 6, none⟩) (hg1.block b (by simp; omega) (by simp; omega))).trans ((World.cell?_alloc_lt _ _ _ hlt).trans d6)⟩) (fun hHeld => ?_)
  clear hK K
  try go_frame
  refine wpAnyH_done (by kernel_rfl) ?_ _
  refine NoPanic.normal ?_
  clear hHeld d0 d1 d2 d3 d4 d5 d6
  have hR1 : Blk w1 w.heap.size 31 zeroVc := (hR.drew.alloc _).kept hg1 (by have := hR.lt; simp; omega)
  have hbw1 : Below w.heap.size w w1 := (hbW.drew.alloc hbW.size _).grown hg1 (by have := hbW.size; simp; omega) (by rintro j ⟨⟩; exact hbW.size)
  have hWl := hR.lt
  clear hR hbW hg1 hs1 hw0 hw1 hw2 hw3 hw4 hw5 hw6 hw7
  have i1 : (23 : Int) ≤ (c : Int) := by omega
  have i2 : ¬ c = 7 := by omega
  have i3 : ¬ c = 15 := by omega
  have i4 : (15 : Int) ≤ (c : Int) := by omega
  go_wp2
  refine wp_region_still_tail 4 (by kernel_rfl) (by kernel_rfl) ?_
  simp only [List.take_succ_cons, List.take_zero, List.drop_succ_cons, List.drop_zero]
  iterate 4 still_step
  refine wpStill_nil ?_
  change wpList _ _ _ _ _ w1.drew
  refine wpList_copy_splice rfl (.tmp 46) (.tmp 48) _ _ rfl 5 Tryz.underlying32 (by kernel_rfl) _ _ _ _ _ _ rfl rfl W.heap.size 6 (Vt.cells (⟨(b0.toNat : Int), (b1.toNat : Int), (b2.toNat : Int), (b3.toNat : Int), (b4.toNat : Int), (sp : Int), Nm.zero, Nm.zero⟩ : Vt)).toList 31 hV1.drew (nmc p) ?c11 ?c12 ?c13 ?c14 W.heap.size w1.drew (Below.refl _ _) (Nat.le_refl _) ?_
  case c11 => rfl
  case c12 =>
    intro _
    refine ⟨rfl, _, rfl, fun j v hv => ?_⟩
    rw [Addr.add_mid]
    exact ((hbw1.drew).cell (p := ⟨b, o + 7 + j, none⟩) hb).trans (HP.out j v hv)
  case c13 => simp
  case c14 => exact fun u hu => bytes_one (l := p.bytes) (by simpa [Nm.bytes] using hu)
  intro w2 hg2 hb2
  have hV2 : Blk w2 W.heap.size 31 (Vt.cells { (⟨(b0.toNat : Int), (b1.toNat : Int), (b2.toNat : Int), (b3.toNat : Int), (b4.toNat : Int), (sp : Int), Nm.zero, Nm.zero⟩ : Vt) with parent := p }) := hg2.out
  have hR2 := (hR1.drew).below hb2 hWl
  have hbw2 : Below w.heap.size w w2 := (hbw1.drew).trans (hb2.mono (by omega))
  clear hV1 hR1 hbw1 hb2 hg2
  go_frame
  go_wp2
  refine wp_region_still_tail 4 (by kernel_rfl) (by kernel_rfl) ?_
  simp only [List.take_succ_cons, List.take_zero, List.drop_succ_cons, List.drop_zero]
  iterate 4 still_step
  refine wpStill_nil ?_
  change wpList _ _ _ _ _ w2.drew
  refine wpList_copy_splice rfl (.tmp 51) (.tmp 53) _ _ rfl 5 Tryz.underlying32 (by kernel_rfl) _ _ _ _ _ _ rfl rfl W.heap.size 14 (Vt.cells { (⟨(b0.toNat : Int), (b1.toNat : Int), (b2.toNat : Int), (b3.toNat : Int), (b4.toNat : Int), (sp : Int), Nm.zero, Nm.zero⟩ : Vt) with parent := p }).toList 31 hV2.drew (nmc q) ?c21 ?c22 ?c23 ?c24 W.heap.size w2.drew (Below.refl _ _) (Nat.le_refl _) ?_
  case c21 => rfl
  case c22 =>
    intro _
    refine ⟨rfl, _, rfl, fun j v hv => ?_⟩
    rw [Addr.add_mid]
    exact ((hbw2.drew).cell (p := ⟨b, o + 15 + j, none⟩) hb).trans (HQ.out j v hv)
  case c23 => simp
  case c24 => exact fun u hu => bytes_one (l := q.bytes) (by simpa [Nm.bytes] using hu)
  intro w3 hg3 hb3
  have hV3 : Blk w3 W.heap.size 31 V.cells := by rw [HE.out]; exact hg3.out
  have hR3 := (hR2.drew).below hb3 hWl
  have hbw3 : Below w.heap.size w w3 := (hbw2.drew).trans (hb3.mono (by omega))
  clear hV2 hR2 hbw2 hb3 hg3
  go_frame
  have x0 := hV3.row 22 rfl
  have hl3 := hV3.lt
  go_wp2_with fail
  refine (HV.out _).mono ?_
  rintro en w4 ⟨rfl, hb4⟩
  have hV4 := hV3.below hb4 hV3.lt
  have hR4 := hR3.below hb4 hR3.lt
  have hbw4 := hbw3.trans (hb4.mono hbw3.size)
  clear hV3 hR3 hbw3 hb4 x0
  have x4 := hV4.row 22 rfl
  go_wp2_with (refine wpList_store_blk rfl 31 (.tmp 2) (.tmp 59) rfl w.heap.size V.cells rfl rfl 31 _ hR4 rfl size_vote (fun u hu => one_vt V hu) ?_)
  intro w5 hR5 hg5 hs5
  go_wp2
  exact bodyPost_ret (results_row_tmp (g := w.heap.size) (cs := V.cells) rfl _ _ _ _ _ rfl hR5 Tryz.underlying31 rfl size_vote) rfl ⟨rfl, hbw4.grown hg5 hbw4.size (by rintro j ⟨⟩; omega)⟩

set_option maxRecDepth 100000 in
set_option maxHeartbeats 4000000 in
theorem vdec_bad (b o c : Nat) (b0 b1 b2 b3 b4 b5 b6 : UInt8) (sp : Nat) (p q : Nm) (V : Vt) (w : World) (hc : 23 ≤ c) (hm : c ≤ maxLen) (hb : b < w.heap.size) (c0 : w.cell? ⟨b, o, none⟩ = some (B b0)) (c1 : w.cell? ⟨b, o + 1, none⟩ = some (B b1)) (c2 : w.cell? ⟨b, o + 2, none⟩ = some (B b2)) (c3 : w.cell? ⟨b, o + 3, none⟩ = some (B b3)) (c4 : w.cell? ⟨b, o + 4, none⟩ = some (B b4)) (c5 : w.cell? ⟨b, o + 5, none⟩ = some (B b5)) (c6 : w.cell? ⟨b, o + 6, none⟩ = some (B b6))
    (hp : ∀ j u, (nmc p)[j]? = some u → w.cell? ⟨b, o + 7 + j, none⟩ = some u) (hq : ∀ j u, (nmc q)[j]? = some u → w.cell? ⟨b, o + 15 + j, none⟩ = some u)
    (hV : V = ⟨(b0.toNat : Int), (b1.toNat : Int), (b2.toNat : Int), (b3.toNat : Int), (b4.toNat : Int), (sp : Int), p, q⟩) (hsp : sp = b5.toNat * 256 + b6.toNat) (hok : V.ok) (hy : ¬ ValidP V)
    (hu : ∀ W, Below w.heap.size w W → Calls Tryz.prog 129 #[.slice (some ⟨b, o, none⟩) 23 c, .int .i64 5, .int .i64 2] W fun e w' => e = .returned (.tuple #[.int .u64 (sp : Int), .bool true]) ∧ w' = W) :
    Calls Tryz.prog 123 #[.slice (some ⟨b, o, none⟩) 23 c] w (VDecPost w zeroV 11) := by
  have HV := Lib.hid (fun W => valid_no V W hok hy)
  have HU := Lib.hid hu; clear hu
  have HP := Lib.hid hp; clear hp
  have HQ := Lib.hid hq; clear hq
  have HE := Lib.hid hV
  clear hV hok hy
  unfold maxLen at hm
  have hspl : sp ≤ 65535 := by have := b5.toNat_lt; have := b6.toNat_lt; omega
  have HSP := Lib.hid hsp; clear hsp
  have t0 := b0.toNat_lt; have t1 := b1.toNat_lt; have t2 := b2.toNat_lt; have t3 := b3.toNat_lt; have t4 := b4.toNat_lt; have t5 := b5.toNat_lt; have t6 := b6.toNat_lt
  go_enter Tryz.func123, Tryz.ntmps123
  go_upto_region 6 with ((go_at_call 129; refine (HU.out _ ((Below.refl _ _).alloc (Nat.le_refl _) _)).mono ?_; rintro en w' ⟨rfl, rfl⟩))
  have hR : Blk (w.alloc (Obj.cells zeroVc 31)) w.heap.size 31 zeroVc := Blk.new w _ _
  have hbW : Below w.heap.size w (w.alloc (Obj.cells zeroVc 31)) := (Below.refl _ _).alloc (Nat.le_refl _) _
  have hlt : b < (w.alloc (Obj.cells zeroVc 31)).heap.size := by simp; omega
  have d0 : (w.alloc (Obj.cells zeroVc 31)).cell? ⟨b, o, none⟩ = some (B b0) := (World.cell?_alloc_lt _ _ _ hb).trans c0
  have d1 : (w.alloc (Obj.cells zeroVc 31)).cell? ⟨b, o + 1, none⟩ = some (B b1) := (World.cell?_alloc_lt _ _ _ hb).trans c1
  have d2 : (w.alloc (Obj.cells zeroVc 31)).cell? ⟨b, o + 2, none⟩ = some (B b2) := (World.cell?_alloc_lt _ _ _ hb).trans c2
  have d3 : (w.alloc (Obj.cells zeroVc 31)).cell? ⟨b, o + 3, none⟩ = some (B b3) := (World.cell?_alloc_lt _ _ _ hb).trans c3
  have d4 : (w.alloc (Obj.cells zeroVc 31)).cell? ⟨b, o + 4, none⟩ = some (B b4) := (World.cell?_alloc_lt _ _ _ hb).trans c4
  have d5 : (w.alloc (Obj.cells zeroVc 31)).cell? ⟨b, o + 5, none⟩ = some (B b5) := (World.cell?_alloc_lt _ _ _ hb).trans c5
  have d6 : (w.alloc (Obj.cells zeroVc 31)).cell? ⟨b, o + 6, none⟩ = some (B b6) := (World.cell?_alloc_lt _ _ _ hb).trans c6
  clear c0 c1 c2 c3 c4 c5 c6
  generalize (w.alloc (Obj.cells zeroVc 31)) = W at *
  have hw0 : IntKind.i64.wrap (b0.toNat : Int) = (b0.toNat : Int) := IntWalk.i64_in _ (by omega)
  have hw1 : IntKind.i64.wrap (b1.toNat : Int) = (b1.toNat : Int) := IntWalk.i64_in _ (by omega)
  have hw2 : IntKind.i64.wrap (b2.toNat : Int) = (b2.toNat : Int) := IntWalk.i64_in _ (by omega)
  have hw3 : IntKind.i64.wrap (b3.toNat : Int) = (b3.toNat : Int) := IntWalk.i64_in _ (by omega)
  have hw4 : IntKind.i64.wrap (b4.toNat : Int) = (b4.toNat : Int) := IntWalk.i64_in _ (by omega)
  have hw5 : IntKind.i64.wrap (b5.toNat : Int) = (b5.toNat : Int) := IntWalk.i64_in _ (by omega)
  have hw6 : IntKind.i64.wrap (b6.toNat : Int) = (b6.toNat : Int) := IntWalk.i64_in _ (by omega)
  have hw7 : IntKind.i64.wrap (sp : Int) = (sp : Int) := IntWalk.i64_in _ (by omega)
  clear t0 t1 t2 t3 t4 t5 t6
  refine wp_region_noPanic ?_
  refine wp_region_held_drew (S := fun w' => w'.cell? ⟨b, o, none⟩ = some (B b0) ∧ w'.cell? ⟨b, o + 1, none⟩ = some (B b1) ∧ w'.cell? ⟨b, o + 2, none⟩ = some (B b2) ∧ w'.cell? ⟨b, o + 3, none⟩ = some (B b3) ∧ w'.cell? ⟨b, o + 4, none⟩ = some (B b4) ∧ w'.cell? ⟨b, o + 5, none⟩ = some (B b5) ∧ w'.cell? ⟨b, o + 6, none⟩ = some (B b6)) (by kernel_rfl) (⟨d0, d1, d2, d3, d4, d5, d6⟩) (fun hHeld => ?_)
  refine wpAnyH_takeD (some 22) (i := 0) (v := ?vh0) rfl rfl (by kernel_rfl) (by kernel_rfl) (by kernel_rfl) (fun _ _ _ h => h) (by rfl) ?hh0 (by assumption) ?_
  case hh0 => (intro wq hSw; (try dsimp only at hSw); go_simp; (try (with_reducible rfl)))
  go_frame
  refine wpAnyH_takeD (some 23) (i := 1) (v := ?vh1) rfl rfl (by kernel_rfl) (by kernel_rfl) (by kernel_rfl) (fun _ _ _ h => h) (by rfl) ?hh1 (by assumption) ?_
  case hh1 => (intro wq hSw; (try dsimp only at hSw); go_simp; (try (with_reducible rfl)))
  go_frame
  refine wpAnyH_takeD (some 24) (i := 2) (v := ?vh2) rfl rfl (by kernel_rfl) (by kernel_rfl) (by kernel_rfl) (fun _ _ _ h => h) (by rfl) ?hh2 (by assumption) ?_
  case hh2 => (intro wq hSw; (try dsimp only at hSw); go_simp; (try (with_reducible rfl)))
  go_frame
  refine wpAnyH_takeD (some 25) (i := 3) (v := ?vh3) rfl rfl (by kernel_rfl) (by kernel_rfl) (by kernel_rfl) (fun _ _ _ h => h) (by rfl) ?hh3 (by assumption) ?_
  case hh3 => (intro wq hSw; (try dsimp only at hSw); go_simp; (try (with_reducible rfl)))
  go_frame
  refine wpAnyH_takeD (some 26) (i := 4) (v := ?vh4) rfl rfl (by kernel_rfl) (by kernel_rfl) (by kernel_rfl) (fun _ _ _ h => h) (by rfl) ?hh4 (by assumption) ?_
  case hh4 => (intro wq hSw; (try dsimp only at hSw); go_simp; (try (with_reducible rfl)))
  go_frame
  refine wpAnyH_takeD (some 27) (i := 5) (v := ?vh5) rfl rfl (by kernel_rfl) (by kernel_rfl) (by kernel_rfl) (fun _ _ _ h => h) (by rfl) ?hh5 (by assumption) ?_
  case hh5 => (intro wq hSw; (try dsimp only at hSw); go_simp; (try (with_reducible rfl)))
  go_frame
  refine wpAnyH_takeD (some 28) (i := 6) (v := ?vh6) rfl rfl (by kernel_rfl) (by kernel_rfl) (by kernel_rfl) (fun _ _ _ h => h) (by rfl) ?hh6 (by assumption) ?_
  case hh6 => (intro wq hSw; (try dsimp only at hSw); go_simp; (try (with_reducible rfl)))
  go_frame
  refine wpAnyH_takeD (some 29) (i := 7) (v := ?vh7) rfl rfl (by kernel_rfl) (by kernel_rfl) (by kernel_rfl) (fun _ _ _ h => h) (by rfl) ?hh7 (by assumption) ?_
  case hh7 => (intro wq hSw; (try dsimp only at hSw); go_simp; (try (with_reducible rfl)))
  go_frame
  refine wpAnyH_takeD (some 30) (i := 8) (v := ?vh8) rfl rfl (by kernel_rfl) (by kernel_rfl) (by kernel_rfl) (fun _ _ _ h => h) (by rfl) ?hh8 (by assumption) ?_
  case hh8 => (intro wq hSw; (try dsimp only at hSw); go_simp; (try (with_reducible rfl)))
  go_frame
  refine wpAnyH_takeD (some 31) (i := 9) (v := ?vh9) rfl rfl (by kernel_rfl) (by kernel_rfl) (by kernel_rfl) (fun _ _ _ h => h) (by rfl) ?hh9 (by assumption) ?_
  case hh9 => (intro wq hSw; (try dsimp only at hSw); go_simp; (try (with_reducible rfl)))
  go_frame
  refine wpAnyH_takeD (some 32) (i := 10) (v := ?vh10) rfl rfl (by kernel_rfl) (by kernel_rfl) (by kernel_rfl) (fun _ _ _ h => h) (by rfl) ?hh10 (by assumption) ?_
  case hh10 => (intro wq hSw; (try dsimp only at hSw); go_simp; (try (with_reducible rfl)))
  go_frame
  refine wpAnyH_takeD (some 33) (i := 11) (v := ?vh11) rfl rfl (by kernel_rfl) (by kernel_rfl) (by kernel_rfl) (fun _ _ _ h => h) (by rfl) ?hh11 (by assumption) ?_
  case hh11 => (intro wq hSw; (try dsimp only at hSw); go_simp; (try (with_reducible rfl)))
  go_frame
  refine wpAnyH_takeD (some 34) (i := 12) (v := ?vh12) rfl rfl (by kernel_rfl) (by kernel_rfl) (by kernel_rfl) (fun _ _ _ h => h) (by rfl) ?hh12 (by assumption) ?_
  case hh12 => (intro wq hSw; (try dsimp only at hSw); go_simp; (try (with_reducible rfl)))
  go_frame
  refine wpAnyH_takeD (some 35) (i := 13) (v := ?vh13) rfl rfl (by kernel_rfl) (by kernel_rfl) (by kernel_rfl) (fun _ _ _ h => h) (by rfl) ?hh13 (by assumption) ?_
  case hh13 => (intro wq hSw; (try dsimp only at hSw); go_simp; (try (with_reducible rfl)))
  go_frame
  refine wpAnyH_takeD (some 36) (i := 14) (v := ?vh14) rfl rfl (by kernel_rfl) (by kernel_rfl) (by kernel_rfl) (fun _ _ _ h => h) (by rfl) ?hh14 (by assumption) ?_
  case hh14 => (intro wq hSw; (try dsimp only at hSw); go_simp; (try (with_reducible rfl)))
  go_frame
  refine wpAnyH_takeD (some 37) (i := 15) (v := ?vh15) rfl rfl (by kernel_rfl) (by kernel_rfl) (by kernel_rfl) (fun _ _ _ h => h) (by rfl) ?hh15 (by assumption) ?_
  case hh15 => (intro wq hSw; (try dsimp only at hSw); go_simp; (try (with_reducible rfl)))
  go_frame
  refine wpAnyH_takeD (some 38) (i := 16) (v := ?vh16) rfl rfl (by kernel_rfl) (by kernel_rfl) (by kernel_rfl) (fun _ _ _ h => h) (by rfl) ?hh16 (by assumption) ?_
  case hh16 => (intro wq hSw; (try dsimp only at hSw); go_simp; (try (with_reducible rfl)))
  go_frame
  refine wpAnyH_takeD (some 39) (i := 17) (v := ?vh17) rfl rfl (by kernel_rfl) (by kernel_rfl) (by kernel_rfl) (fun _ _ _ h => h) (by rfl) ?hh17 (by assumption) ?_
  case hh17 => (intro wq hSw; (try dsimp only at hSw); go_simp; (try (with_reducible rfl)))
  go_frame
  refine wpAnyH_takeD (some 40) (i := 18) (v := ?vh18) rfl rfl (by kernel_rfl) (by kernel_rfl) (by kernel_rfl) (fun _ _ _ h => h) (by rfl) ?hh18 (by assumption) ?_
  case hh18 => (intro wq hSw; (try dsimp only at hSw); go_simp; (try (with_reducible rfl)))
  go_frame
  refine wpAnyH_takeD (some 41) (i := 19) (v := ?vh19) rfl rfl (by kernel_rfl) (by kernel_rfl) (by kernel_rfl) (fun _ _ _ h => h) (by rfl) ?hh19 (by assumption) ?_
  case hh19 => (intro wq hSw; (try dsimp only at hSw); go_simp; (try (with_reducible rfl)))
  go_frame
  refine wpAnyH_takeD (some 42) (i := 20) (v := ?vh20) rfl rfl (by kernel_rfl) (by kernel_rfl) (by kernel_rfl) (fun _ _ _ h => h) (by rfl) ?hh20 (by assumption) ?_
  case hh20 => (intro wq hSw; (try dsimp only at hSw); go_simp; (try (with_reducible rfl)))
  go_frame
  refine wpAnyH_takeD (some 43) (i := 21) (v := ?vh21) rfl rfl (by kernel_rfl) (by kernel_rfl) (by kernel_rfl) (fun _ _ _ h => h) (by rfl) ?hh21 (by assumption) ?_
  case hh21 => (intro wq hSw; (try dsimp only at hSw); go_simp; (try (with_reducible rfl)))
  go_frame
  refine wpAnyH_takeD (some 44) (i := 22) (v := ?vh22) rfl rfl (by kernel_rfl) (by kernel_rfl) (by kernel_rfl) (fun _ _ _ h => h) (by rfl) ?hh22 (by assumption) ?_
  case hh22 => (intro wq hSw; (try dsimp only at hSw); go_simp; (try (with_reducible rfl)))
  go_frame
  refine wpAnyH_ready (rs := [23]) (by kernel_rfl) (by simp) ?_
  refine AllReadyH.cons rfl (fun K hK => ?_) AllReadyH.nil
  go_simp
  refine hK.out _ _ (⟨(World.cell?_alloc_lt _ _ _ hlt).trans d0, (World.cell?_alloc_lt _ _ _ hlt).trans d1, (World.cell?_alloc_lt _ _ _ hlt).trans d2, (World.cell?_alloc_lt _ _ _ hlt).trans d3, (World.cell?_alloc_lt _ _ _ hlt).trans d4, (World.cell?_alloc_lt _ _ _ hlt).trans d5, (World.cell?_alloc_lt _ _ _ hlt).trans d6⟩) (fun hHeld => ?_)
  clear hK K
  try go_frame
  refine wpAnyH_ready (rs := [24]) (by kernel_rfl) (by simp) ?_
  refine AllReadyH.cons rfl (fun K hK => ?_) AllReadyH.nil
  rw [if_pos (by rfl)]
  refine wp_store_blk 31 (.tmp 6) (.tmp 44) rfl W.heap.size (⟨(b0.toNat : Int), (b1.toNat : Int), (b2.toNat : Int), (b3.toNat : Int), (b4.toNat : Int), (sp : Int), Nm.zero, Nm.zero⟩ : Vt).cells rfl rfl 31 zeroVc (Blk.new W.drew _ _) rfl size_vote (fun u hu => one_vt (⟨(b0.toNat : Int), (b1.toNat : Int), (b2.toNat : Int), (b3.toNat : Int), (b4.toNat : Int), (sp : Int), Nm.zero, Nm.zero⟩ : Vt) hu) rfl ?_; intro w1 hV1 hg1 hs1
  refine hK.out _ _ (⟨(World.cell?_of_block (a := ⟨b, o, none⟩) (hg1.block b (by simp; omega) (by simp; omega))).trans ((World.cell?_alloc_lt _ _ _ hlt).trans d0), (World.cell?_of_block (a := ⟨b, o + 1, none⟩) (hg1.block b (by simp; omega) (by simp; omega))).trans ((World.cell?_alloc_lt _ _ _ hlt).trans d1), (World.cell?_of_block (a := ⟨b, o + 2, none⟩) (hg1.block b (by simp; omega) (by simp; omega))).trans ((World.cell?_alloc_lt _ _ _ hlt).trans d2), (World.cell?_of_block (a := ⟨b, o + 3, none⟩) (hg1.block b (by simp; omega) (by simp; omega))).trans ((World.cell?_alloc_lt _ _ _ hlt).trans d3), (World.cell?_of_block (a := ⟨b, o + 4, none⟩) (hg1.block b (by simp; omega) (by simp; omega))).trans ((World.cell?_alloc_lt _ _ _ hlt).trans d4), (World.cell?_of_block (a := ⟨b, o + 5, none⟩) (hg1.block b (by simp; omega) (by simp; omega))).trans ((World.cell?_alloc_lt _ _ _ hlt).trans d5), (World.cell?_of_block (a := ⟨b, o + 6, none⟩) (hg1.block b (by simp; omega) (by simp; omega))).trans ((World.cell?_alloc_lt _ _ _ hlt).trans d6)⟩) (fun hHeld => ?_)
  clear hK K
  try go_frame
  refine wpAnyH_done (by kernel_rfl) ?_ _
  refine NoPanic.normal ?_
  clear hHeld d0 d1 d2 d3 d4 d5 d6
  have hR1 : Blk w1 w.heap.size 31 zeroVc := (hR.drew.alloc _).kept hg1 (by have := hR.lt; simp; omega)
  have hbw1 : Below w.heap.size w w1 := (hbW.drew.alloc hbW.size _).grown hg1 (by have := hbW.size; simp; omega) (by rintro j ⟨⟩; exact hbW.size)
  have hWl := hR.lt
  clear hR hbW hg1 hs1 hw0 hw1 hw2 hw3 hw4 hw5 hw6 hw7
  have i1 : (23 : Int) ≤ (c : Int) := by omega
  have i2 : ¬ c = 7 := by omega
  have i3 : ¬ c = 15 := by omega
  have i4 : (15 : Int) ≤ (c : Int) := by omega
  go_wp2
  refine wp_region_still_tail 4 (by kernel_rfl) (by kernel_rfl) ?_
  simp only [List.take_succ_cons, List.take_zero, List.drop_succ_cons, List.drop_zero]
  iterate 4 still_step
  refine wpStill_nil ?_
  change wpList _ _ _ _ _ w1.drew
  refine wpList_copy_splice rfl (.tmp 46) (.tmp 48) _ _ rfl 5 Tryz.underlying32 (by kernel_rfl) _ _ _ _ _ _ rfl rfl W.heap.size 6 (Vt.cells (⟨(b0.toNat : Int), (b1.toNat : Int), (b2.toNat : Int), (b3.toNat : Int), (b4.toNat : Int), (sp : Int), Nm.zero, Nm.zero⟩ : Vt)).toList 31 hV1.drew (nmc p) ?c11 ?c12 ?c13 ?c14 W.heap.size w1.drew (Below.refl _ _) (Nat.le_refl _) ?_
  case c11 => rfl
  case c12 =>
    intro _
    refine ⟨rfl, _, rfl, fun j v hv => ?_⟩
    rw [Addr.add_mid]
    exact ((hbw1.drew).cell (p := ⟨b, o + 7 + j, none⟩) hb).trans (HP.out j v hv)
  case c13 => simp
  case c14 => exact fun u hu => bytes_one (l := p.bytes) (by simpa [Nm.bytes] using hu)
  intro w2 hg2 hb2
  have hV2 : Blk w2 W.heap.size 31 (Vt.cells { (⟨(b0.toNat : Int), (b1.toNat : Int), (b2.toNat : Int), (b3.toNat : Int), (b4.toNat : Int), (sp : Int), Nm.zero, Nm.zero⟩ : Vt) with parent := p }) := hg2.out
  have hR2 := (hR1.drew).below hb2 hWl
  have hbw2 : Below w.heap.size w w2 := (hbw1.drew).trans (hb2.mono (by omega))
  clear hV1 hR1 hbw1 hb2 hg2
  go_frame
  go_wp2
  refine wp_region_still_tail 4 (by kernel_rfl) (by kernel_rfl) ?_
  simp only [List.take_succ_cons, List.take_zero, List.drop_succ_cons, List.drop_zero]
  iterate 4 still_step
  refine wpStill_nil ?_
  change wpList _ _ _ _ _ w2.drew
  refine wpList_copy_splice rfl (.tmp 51) (.tmp 53) _ _ rfl 5 Tryz.underlying32 (by kernel_rfl) _ _ _ _ _ _ rfl rfl W.heap.size 14 (Vt.cells { (⟨(b0.toNat : Int), (b1.toNat : Int), (b2.toNat : Int), (b3.toNat : Int), (b4.toNat : Int), (sp : Int), Nm.zero, Nm.zero⟩ : Vt) with parent := p }).toList 31 hV2.drew (nmc q) ?c21 ?c22 ?c23 ?c24 W.heap.size w2.drew (Below.refl _ _) (Nat.le_refl _) ?_
  case c21 => rfl
  case c22 =>
    intro _
    refine ⟨rfl, _, rfl, fun j v hv => ?_⟩
    rw [Addr.add_mid]
    exact ((hbw2.drew).cell (p := ⟨b, o + 15 + j, none⟩) hb).trans (HQ.out j v hv)
  case c23 => simp
  case c24 => exact fun u hu => bytes_one (l := q.bytes) (by simpa [Nm.bytes] using hu)
  intro w3 hg3 hb3
  have hV3 : Blk w3 W.heap.size 31 V.cells := by rw [HE.out]; exact hg3.out
  have hR3 := (hR2.drew).below hb3 hWl
  have hbw3 : Below w.heap.size w w3 := (hbw2.drew).trans (hb3.mono (by omega))
  clear hV2 hR2 hbw2 hb3 hg3
  go_frame
  have x0 := hV3.row 22 rfl
  have hl3 := hV3.lt
  go_wp2_with fail
  refine (HV.out _).mono ?_
  rintro en w4 ⟨rfl, hb4⟩
  have hV4 := hV3.below hb4 hV3.lt
  have hR4 := hR3.below hb4 hR3.lt
  have hbw4 := hbw3.trans (hb4.mono hbw3.size)
  clear hV3 hR3 hbw3 hb4 x0
  have x4 := hV4.row 22 rfl
  go_wp2_with (refine wpList_store_blk rfl 31 (.tmp 2) (.tmp 58) rfl w.heap.size _ rfl rfl 31 _ hR4 rfl size_vote ?s9 ?_)
  case s9 => exact ⟨rfl, rfl⟩
  intro w5 hR5 hg5 hs5
  go_wp2
  exact bodyPost_ret (results_row_tmp (g := w.heap.size) (cs := zeroVc) rfl _ _ _ _ _ rfl hR5 Tryz.underlying31 rfl size_vote) rfl ⟨rfl, hbw4.grown hg5 hbw4.size (by rintro j ⟨⟩; omega)⟩

theorem vdec_any (A : Option Addr) (c : Nat) (l : List UInt8) (w : World) (hr : Rd w w.heap.size A (l.map B)) (hc : l.length ≤ c) (hm : c ≤ maxLen) :
    Calls Tryz.prog 123 #[.slice A l.length c] w (VDecPost w (decVote l).1 (decVote l).2) := by
  unfold decVote
  by_cases h1 : l.length < 23
  · rw [if_pos h1]; exact vdec_short A l.length c w h1
  · by_cases h2 : 23 < l.length
    · rw [if_neg h1, if_pos h2]; exact vdec_long A l.length c w h2
    · have h23 : l.length = 23 := by omega
      obtain ⟨b, o, rfl, hb, hcell⟩ := hr.cells (by intro e; rw [List.map_eq_nil_iff] at e; subst e; simp at h23)
      have key : ∀ j, j < 23 → w.cell? ⟨b, o + j, none⟩ = some (B (l.getD j 0)) := fun j hj => hcell j _ (by rw [List.getElem?_map, getD_some 0 (by omega)]; rfl)
      have kp : ∀ k, k + 8 ≤ 23 → ∀ j u, (nmc (Nm.ofList (l.drop k)))[j]? = some u → w.cell? ⟨b, o + k + j, none⟩ = some u := fun k hk j u hu => by
        rw [ofList_cells _ (by simp; omega)] at hu
        rw [Nat.add_assoc]
        refine hcell _ u ?_
        rw [List.map_take, List.getElem?_take] at hu
        split at hu
        · rw [← hu, List.map_drop, List.getElem?_drop]
        · cases hu
      have hu : ∀ W, Below w.heap.size w W → Calls Tryz.prog 129 #[.slice (some ⟨b, o, none⟩) l.length c, .int .i64 5, .int .i64 2] W fun e w' => e = .returned (.tuple #[.int .u64 (((l.getD 5 0).toNat * 256 + (l.getD 6 0).toNat : Nat) : Int), .bool true]) ∧ w' = W := fun W hW => by
        have h := uint_yes (some ⟨b, o, none⟩) c 5 2 l W ((hr.below hW).more hW.size) (by omega) hc hm (by omega) (by omega) (by omega)
        have e : numN ((l.drop 5).take 2) = (l.getD 5 0).toNat * 256 + (l.getD 6 0).toNat := by
          have := num2 (l.drop 5) (by simp; omega)
          simpa [leafN] using this
        rw [e] at h
        exact h
      rw [if_neg h1, if_neg h2]
      rw [h23] at hu hc ⊢
      by_cases hy : ValidP (decV l)
      · rw [if_pos hy]
        exact vdec_yes b o c _ _ _ _ _ _ _ _ _ _ (decV l) w hc hm hb (key 0 (by omega)) (key 1 (by omega)) (key 2 (by omega)) (key 3 (by omega)) (key 4 (by omega)) (key 5 (by omega)) (key 6 (by omega)) (kp 7 (by omega)) (kp 15 (by omega)) rfl rfl (decV_ok l) hy hu
      · rw [if_neg hy]
        exact vdec_bad b o c _ _ _ _ _ _ _ _ _ _ (decV l) w hc hm hb (key 0 (by omega)) (key 1 (by omega)) (key 2 (by omega)) (key 3 (by omega)) (key 4 (by omega)) (key 5 (by omega)) (key 6 (by omega)) (kp 7 (by omega)) (kp 15 (by omega)) rfl rfl (decV_ok l) hy hu
end Go.Proofs.YthmecidpjlaonaaGreat
namespace Go.Proofs.YthmecidpjlaonaaGreat
open Go.RowKit
attribute [local go_sem ↓] Go.wp_at_zero Go.wp_at_succ loadNm loadVt loadSg loadEv
attribute [local go_sem] runNm runVt runSg runEv pickRow_some rowAt_drew rowAt_drewN
/-- The call returns a signed vote whose signature lies in new memory. -/
def SDecOk (w : World) (v : Vt) (sig : List UInt8) (e : Ending) (w' : World) : Prop :=
  ∃ A c, e = .returned (.tuple #[(Sg.mk v sig A c).val, .int .i64 0]) ∧ (∀ p, A = some p → w.heap.size ≤ p.block) ∧ Rd w' w'.heap.size A (sig.map B) ∧ sig.length ≤ c ∧ c ≤ maxLen ∧ Below w.heap.size w w'
/-- The call returns an error number, and no signed vote. -/
def SDecErr (w : World) (n : Int) (e : Ending) (w' : World) : Prop := e = .returned (.tuple #[.agg zeroSc, .int .i64 n]) ∧ Below w.heap.size w w'

set_option maxRecDepth 100000 in
set_option maxHeartbeats 4000000 in
theorem sdec_yes (b o c : Nat) (v : Vt) (sig : List UInt8) (hsl : sig.length = 370) (w : World) (hc : 393 ≤ c) (hm : c ≤ maxLen)
    (hd : ∀ W, Below w.heap.size w W → Calls Tryz.prog 123 #[.slice (some ⟨b, o, none⟩) 23 c] W (VDecPost W v 0))
    (ha : ∀ W, Below w.heap.size w W → Calls Tryz.prog 71 #[.slice (some ⟨b, o + 23, none⟩) 370 (c - 23), .int .u64 0, .int .i64 0] W (RowPost W 5 1 370 (sig.map B))) :
    Calls Tryz.prog 77 #[.slice (some ⟨b, o, none⟩) 393 c] w (SDecOk w v sig) := by
  have HD := Lib.hid hd; clear hd
  have HSL := Lib.hid hsl; clear hsl
  have HA := Lib.hid ha; clear ha
  unfold maxLen at hm
  have i1 : (23 : Int) ≤ (c : Int) := by omega
  have i2 : ¬ c = 23 := by omega
  have i3 : (393 : Int) ≤ (c : Int) := by omega
  go_enter Tryz.func77, Tryz.ntmps77
  go_wp2_with fail
  have hR : Blk (w.alloc (Obj.cells zeroSc 34)) w.heap.size 34 zeroSc := Blk.new w _ _
  have hbW : Below w.heap.size w (w.alloc (Obj.cells zeroSc 34)) := (Below.refl _ _).alloc (Nat.le_refl _) _
  generalize (w.alloc (Obj.cells zeroSc 34)) = W at *
  refine (HD.out _ hbW).mono ?_
  rintro en w1 ⟨rfl, hb1⟩
  have hR1 := hR.below hb1 hR.lt
  have hbw1 := hbW.trans (hb1.mono hbW.size)
  have hl1 := hR1.lt
  clear hR hbW hb1
  go_wp2_with (refine wpList_store_blk rfl 31 (.tmp 4) (.tmp 20) rfl w1.heap.size v.cells rfl rfl 31 zeroVc (Blk.new w1 _ _) rfl size_vote (fun u hu => one_vt v hu) ?_)
  intro w2 hV2 hg2 hs2
  have hR2 := (hR1.alloc (Obj.cells zeroVc 31)).kept hg2 (by simp; omega)
  have hbw2 : Below w.heap.size w w2 := (hbw1.alloc hbw1.size _).grown hg2 (by have := hbw1.size; simp; omega) (by rintro j ⟨⟩; exact hbw1.size)
  have hne : w.heap.size ≠ w1.heap.size := by omega
  clear hR1 hbw1 hg2 hs2 hl1
  have x2 := hV2.row 22 rfl
  go_wp2
  have hl2 := hV2.lt
  refine wp_region_noPanic ?_
  refine wp_region_held_drew (S := fun w' => rowAt w' w1.heap.size 0 22 = some v.cells) (by kernel_rfl) (hV2.row 22 rfl) (fun hHeld => ?_)
  refine wpAnyH_takeD (some 26) (i := 0) (v := ?vh0) rfl rfl (by kernel_rfl) (by kernel_rfl) (by kernel_rfl) (fun _ _ _ h => h) (by rfl) ?hh0 (by assumption) ?_
  case hh0 => (intro wq hSw; (try dsimp only at hSw); go_simp; (try (with_reducible rfl)))
  go_frame
  refine wpAnyH_takeD (some 27) (i := 1) (v := ?vh1) rfl rfl (by kernel_rfl) (by kernel_rfl) (by kernel_rfl) (fun _ _ _ h => h) (by rfl) ?hh1 (by assumption) ?_
  case hh1 => (intro wq hSw; (try dsimp only at hSw); go_simp; (try (with_reducible rfl)))
  go_frame
  refine wpAnyH_takeD (some 28) (i := 2) (v := ?vh2) rfl rfl (by kernel_rfl) (by kernel_rfl) (by kernel_rfl) (fun _ _ _ h => h) (by rfl) ?hh2 (by assumption) ?_
  case hh2 => (intro wq hSw; (try dsimp only at hSw); go_simp; (try (with_reducible rfl)))
  go_frame
  refine wpAnyH_ready (rs := [3]) (by kernel_rfl) (by simp) ?_
  refine AllReadyH.cons rfl (fun K hK => ?_) AllReadyH.nil
  go_simp
  refine (HA.out _ hbw2.drew).mono ?_; rintro en w3 ⟨A3, c3, rfl, hown3, hb3⟩; have hV3 := hV2.drew.below hb3 hV2.lt; have hR3 := hR2.drew.below hb3 hR2.lt; have hbw3 := hbw2.trans (((Below.refl _ _).drew.trans hb3).mono hbw2.size)
  go_wp2_with fail
  refine hK.out _ _ (hV3.row 22 rfl) (fun hHeld => ?_)
  clear hK K
  try go_frame
  refine wpAnyH_takeD (some 30) (i := 4) (v := ?vh4) rfl rfl (by kernel_rfl) (by kernel_rfl) (by kernel_rfl) (fun _ _ _ h => h) (by rfl) ?hh4 (by assumption) ?_
  case hh4 => (intro wq hSw; (try dsimp only at hSw); go_simp; (try (with_reducible rfl)))
  go_frame
  refine wpAnyH_ready (rs := [5]) (by kernel_rfl) (by simp) ?_
  refine AllReadyH.cons rfl (fun K hK => ?_) AllReadyH.nil
  rw [if_pos (by rfl)]
  refine wp_store_blk 34 (.tmp 2) (.tmp 30) (by rfl) w.heap.size (Sg.mk v sig A3 c3).cells (by rfl) (by simp only [Sg.cells, HSL.out]; rfl) 34 zeroSc hR3 rfl size_sg (fun u hu => one_sg _ hu) rfl ?_; intro w4 hR4 hg4 hs4; have hV4 := hV3.kept hg4 (by simpa using hne.symm)
  refine hK.out _ _ (hV4.row 22 rfl) (fun hHeld => ?_)
  clear hK K
  try go_frame
  refine wpAnyH_takeD (some 3) (i := 6) (v := ?vh6) rfl rfl (by kernel_rfl) (by kernel_rfl) (by kernel_rfl) (fun _ _ _ h => h) (by rfl) ?hh6 (by assumption) ?_
  case hh6 => (intro wq hSw; (try dsimp only at hSw); go_simp; (try (with_reducible rfl)))
  go_frame
  refine wpAnyH_done (by kernel_rfl) ?_ _
  refine NoPanic.normal ?_
  go_wp2
  refine bodyPost_ret (results_row_tmp (g := w.heap.size) (cs := (Sg.mk v sig A3 c3).cells) rfl _ _ _ _ _ rfl hR4 Tryz.underlying34 rfl size_sg) rfl ?_
  obtain ⟨A3', c3', hv3, hc3, hm3⟩ := own_cap hown3 (by omega)
  injection hv3 with hA3 hn3 hcc3
  subst hcc3
  have hown4 := hown3.kept hg4 (.inr fun e => own_lo hown3 (show w.heap.size < w2.heap.size from hR2.lt) e.symm)
  exact ⟨A3, c3, rfl, fun p hp => Nat.le_trans (Nat.le_of_lt (show w.heap.size < w2.heap.size from hR2.lt)) (own_addr hown3 p hp), Rd.of_own hown4, by rw [HSL.out]; exact hc3, hm3, hbw3.grown hg4 hbw3.size (by rintro j ⟨⟩; omega)⟩

set_option maxRecDepth 100000 in
set_option maxHeartbeats 4000000 in
theorem sdec_bad (b o c : Nat) (v : Vt) (n : Int) (hn : (n != 0) = true) (w : World) (hc : 393 ≤ c) (hm : c ≤ maxLen)
    (hd : ∀ W, Below w.heap.size w W → Calls Tryz.prog 123 #[.slice (some ⟨b, o, none⟩) 23 c] W (VDecPost W v n)) :
    Calls Tryz.prog 77 #[.slice (some ⟨b, o, none⟩) 393 c] w (SDecErr w n) := by
  have HD := Lib.hid hd; clear hd
  unfold maxLen at hm
  have i1 : (23 : Int) ≤ (c : Int) := by omega
  have i2 : ¬ c = 23 := by omega
  have i3 : (393 : Int) ≤ (c : Int) := by omega
  go_enter Tryz.func77, Tryz.ntmps77
  go_wp2_with fail
  have hR : Blk (w.alloc (Obj.cells zeroSc 34)) w.heap.size 34 zeroSc := Blk.new w _ _
  have hbW : Below w.heap.size w (w.alloc (Obj.cells zeroSc 34)) := (Below.refl _ _).alloc (Nat.le_refl _) _
  generalize (w.alloc (Obj.cells zeroSc 34)) = W at *
  refine (HD.out _ hbW).mono ?_
  rintro en w1 ⟨rfl, hb1⟩
  have hR1 := hR.below hb1 hR.lt
  have hbw1 := hbW.trans (hb1.mono hbW.size)
  have hl1 := hR1.lt
  clear hR hbW hb1
  go_wp2_with (refine wpList_store_blk rfl 31 (.tmp 4) (.tmp 20) rfl w1.heap.size v.cells rfl rfl 31 zeroVc (Blk.new w1 _ _) rfl size_vote (fun u hu => one_vt v hu) ?_)
  intro w2 hV2 hg2 hs2
  have hR2 := (hR1.alloc (Obj.cells zeroVc 31)).kept hg2 (by simp; omega)
  have hbw2 : Below w.heap.size w w2 := (hbw1.alloc hbw1.size _).grown hg2 (by have := hbw1.size; simp; omega) (by rintro j ⟨⟩; exact hbw1.size)
  have hne : w.heap.size ≠ w1.heap.size := by omega
  clear hR1 hbw1 hg2 hs2 hl1
  have hl2 := hV2.lt
  go_wp2_with (refine wpList_store_blk rfl 34 (.tmp 2) (.tmp 24) rfl w.heap.size zeroSc rfl rfl 34 _ hR2 rfl size_sg (fun u hu => one_zs hu) ?_)
  intro w5 hR5 hg5 hs5
  go_wp2
  exact bodyPost_ret (results_row_tmp (g := w.heap.size) (cs := zeroSc) rfl _ _ _ _ _ rfl hR5 Tryz.underlying34 rfl size_sg) rfl ⟨rfl, hbw2.grown hg5 hbw2.size (by rintro j ⟨⟩; omega)⟩

theorem sdec_ok (A : Option Addr) (c : Nat) (l : List UInt8) (w : World) (hr : Rd w w.heap.size A (l.map B)) (hl : l.length = 393) (hc : 393 ≤ c) (hm : c ≤ maxLen) (h0 : (decVote (l.take 23)).2 = 0) :
    Calls Tryz.prog 77 #[.slice A 393 c] w (SDecOk w (decVote (l.take 23)).1 (l.drop 23)) := by
  obtain ⟨b, o, rfl, hb, hcell⟩ := hr.cells (by intro e; rw [List.map_eq_nil_iff] at e; subst e; simp at hl)
  have hs : Rd w w.heap.size (some ⟨b, o + 23, none⟩) ((l.drop 23).map B) := Rd.mk hb fun j u hu => by
    rw [Nat.add_assoc]
    exact hcell _ u (by rw [List.map_drop, List.getElem?_drop] at hu; exact hu)
  refine sdec_yes b o c (decVote (l.take 23)).1 (l.drop 23) (by simp; omega) w hc hm (fun W hW => ?_) (fun W hW => ?_)
  · have h := vdec_any (some ⟨b, o, none⟩) c (l.take 23) W (by rw [List.map_take]; exact ((hr.below hW).more hW.size).take 23) (by simp; omega) hm
    rw [h0, List.length_take, show min 23 l.length = 23 from by omega] at h
    exact h
  · have h := app0_any (some ⟨b, o + 23, none⟩) (l.drop 23).length (c - 23) 0 ((l.drop 23).map B) W (by simp) ((hs.below hW).more hW.size) (fun u hu => bytes_one hu) (by simp; omega)
    rw [show (l.drop 23).length = 370 from by simp; omega] at h
    exact h
theorem sdec_err (A : Option Addr) (c : Nat) (l : List UInt8) (w : World) (hr : Rd w w.heap.size A (l.map B)) (hl : l.length = 393) (hc : 393 ≤ c) (hm : c ≤ maxLen) (h0 : ¬ (decVote (l.take 23)).2 = 0) :
    Calls Tryz.prog 77 #[.slice A 393 c] w (SDecErr w (decVote (l.take 23)).2) := by
  obtain ⟨b, o, rfl, hb, hcell⟩ := hr.cells (by intro e; rw [List.map_eq_nil_iff] at e; subst e; simp at hl)
  refine sdec_bad b o c (decVote (l.take 23)).1 _ (by simpa using h0) w hc hm (fun W hW => ?_)
  have h := vdec_any (some ⟨b, o, none⟩) c (l.take 23) W (by rw [List.map_take]; exact ((hr.below hW).more hW.size).take 23) (by simp; omega) hm
  rw [List.length_take, show min 23 l.length = 23 from by omega] at h
  exact h

end Go.Proofs.YthmecidpjlaonaaGreat
namespace Go.Proofs.YthmecidpjlaonaaGreat
open Go.RowKit
attribute [local go_sem ↓] Go.wp_at_zero Go.wp_at_succ loadNm loadVt loadSg loadEv
attribute [local go_sem] runNm runVt runSg runEv pickRow_some rowAt_drew rowAt_drewN
set_option maxRecDepth 100000 in
set_option maxHeartbeats 4000000 in
theorem edec_ok (b o c : Nat) (v : Vt) (sig : List UInt8) (v' : Vt) (sig' : List UInt8) (w : World) (hc : 786 ≤ c) (hm : c ≤ maxLen)
    (hd1 : ∀ W, Below w.heap.size w W → Calls Tryz.prog 77 #[.slice (some ⟨b, o, none⟩) 393 c] W (SDecOk W v sig))
    (hd2 : ∀ W, Below w.heap.size w W → Calls Tryz.prog 77 #[.slice (some ⟨b, o + 393, none⟩) 393 (c - 393)] W (SDecOk W v' sig')) :
    Calls Tryz.prog 50 #[.slice (some ⟨b, o, none⟩) 786 c] w (EDecOk w v sig v' sig') := by
  have HD1 := Lib.hid hd1; clear hd1
  have HD2 := Lib.hid hd2; clear hd2
  unfold maxLen at hm
  have i1 : (393 : Int) ≤ (c : Int) := by omega
  have i2 : ¬ c = 393 := by omega
  have i3 : (786 : Int) ≤ (c : Int) := by omega
  go_enter Tryz.func50, Tryz.ntmps50
  go_wp2_with fail
  have hR : Blk (w.alloc (Obj.cells zeroEc 51)) w.heap.size 51 zeroEc := Blk.new w _ _
  have hbW : Below w.heap.size w (w.alloc (Obj.cells zeroEc 51)) := (Below.refl _ _).alloc (Nat.le_refl _) _
  generalize (w.alloc (Obj.cells zeroEc 51)) = W at *
  refine (HD1.out _ hbW).mono ?_
  rintro en w1 ⟨A1, c1, rfl, hn1, hr1, hc1, hm1, hb1⟩
  have H1 := Lib.hid hr1; clear hr1
  have N1 : Hid (∀ p, A1 = some p → w.heap.size + 1 ≤ p.block) := fun p hp => Nat.le_trans hR.lt (hn1 p hp)
  clear hn1
  have hR1 := hR.below hb1 hR.lt
  have hbw1 := hbW.trans (hb1.mono hbW.size)
  have hl1 := hR1.lt
  clear hR hbW hb1
  go_wp2_with (refine wpList_store_blk rfl 34 (.tmp 4) (.tmp 21) rfl w1.heap.size (Sg.mk v sig A1 c1).cells rfl rfl 34 zeroSc (Blk.new w1 _ _) (by first | rfl | (rw [Sg.size_cells]; rfl)) (by first | exact size_sg | (rw [Sg.size_cells]; exact size_sg)) (fun u hu => one_sg _ hu) ?_)
  intro w2 hV2 hg2 hs2
  have hR2 := (hR1.alloc (Obj.cells zeroSc 34)).kept hg2 (by simp; omega)
  have hbw2 : Below w.heap.size w w2 := (hbw1.alloc hbw1.size _).grown hg2 (by have := hbw1.size; simp; omega) (by rintro j ⟨⟩; exact hbw1.size)
  have hne : w.heap.size ≠ w1.heap.size := by omega
  have hl12 : w1.heap.size < w2.heap.size := hV2.lt
  have hr2 : Rd w2 w1.heap.size A1 (sig.map B) := (H1.out.alloc (Nat.le_refl _) (Obj.cells zeroSc 34)).keep fun p hp => World.cell?_of_block (hg2.block p.block (by simp; omega) (by simp; omega))
  clear hR1 hbw1 hg2 hs2 hl1
  go_wp2_with fail
  refine (HD2.out _ hbw2).mono ?_
  rintro en w3 ⟨A3, c3, rfl, hn3, hr3, hc3, hm3, hb3⟩
  have H3 := Lib.hid hr3; clear hr3
  have N3 : Hid (∀ p, A3 = some p → w.heap.size + 1 ≤ p.block) := fun p hp => Nat.le_trans hR2.lt (hn3 p hp)
  clear hn3
  have hV3 := hV2.below hb3 hV2.lt
  have hR3 := hR2.below hb3 hR2.lt
  have hbw3 := hbw2.trans (hb3.mono hbw2.size)
  have hr3 : Rd w3 w1.heap.size A1 (sig.map B) := hr2.below (hb3.mono (by omega))
  have hl3 := hR3.lt
  have hl13 := hV3.lt
  clear hR2 hbw2 hb3 hV2 hr2
  go_wp2_with (refine wpList_store_blk rfl 34 (.tmp 6) (.tmp 31) rfl w3.heap.size (Sg.mk v' sig' A3 c3).cells rfl rfl 34 zeroSc (Blk.new w3 _ _) (by first | rfl | (rw [Sg.size_cells]; rfl)) (by first | exact size_sg | (rw [Sg.size_cells]; exact size_sg)) (fun u hu => one_sg _ hu) ?_)
  intro w4 hY4 hg4 hs4
  have hR4 := (hR3.alloc (Obj.cells zeroSc 34)).kept hg4 (by simp; omega)
  have hV4 := (hV3.alloc (Obj.cells zeroSc 34)).kept hg4 (by simp; omega)
  have hbw4 : Below w.heap.size w w4 := (hbw3.alloc hbw3.size _).grown hg4 (by have := hbw3.size; simp; omega) (by rintro j ⟨⟩; exact hbw3.size)
  have hl4 := hY4.lt
  have hr4 : Rd w4 w1.heap.size A1 (sig.map B) := (hr3.alloc (by omega) (Obj.cells zeroSc 34)).keep fun p hp => World.cell?_of_block (hg4.block p.block (by simp; omega) (by simp; omega))
  have hy4 : Rd w4 w3.heap.size A3 (sig'.map B) := (H3.out.alloc (Nat.le_refl _) (Obj.cells zeroSc 34)).keep fun p hp => World.cell?_of_block (hg4.block p.block (by simp; omega) (by simp; omega))
  clear hR3 hbw3 hg4 hs4 hV3 hr3
  have x4 : rowAt w4 w1.heap.size 0 23 = some (sgLit v (.slice A1 sig.length c1)) := hV4.row 23 (Sg.size_cells _)
  have y4 : rowAt w4 w3.heap.size 0 23 = some (sgLit v' (.slice A3 sig'.length c3)) := hY4.row 23 (Sg.size_cells _)
  have HO : Hid (∀ u ∈ (evLit v (.slice A1 sig.length c1) v' (.slice A3 sig'.length c3)).toList, u.oneCell' = true) := fun u hu => one_ev (Ev.mk ⟨v, sig, A1, c1⟩ ⟨v', sig', A3, c3⟩) (by rw [ev_lit]; exact hu)
  go_wp2_with (refine wpList_store_blk rfl 51 (.tmp 2) (.tmp 39) rfl w.heap.size (evLit v (.slice A1 sig.length c1) v' (.slice A3 sig'.length c3)) rfl rfl 51 zeroEc hR4 rfl size_ev HO.out ?_)
  intro w5 hR5 hg5 hs5
  rw [← ev_lit] at hR5
  go_wp2
  refine bodyPost_ret (results_row_tmp (g := w.heap.size) (cs := (Ev.mk ⟨v, sig, A1, c1⟩ ⟨v', sig', A3, c3⟩).cells) rfl _ _ _ _ _ rfl hR5 Tryz.underlying51 rfl (by rw [Ev.size_cells]; exact size_ev)) rfl ?_
  refine ⟨A1, c1, A3, c3, rfl, fun p hp => ?_, fun p hp => ?_, (hr4.kept hg5 (by omega) (fun p hp => ?_)).more (by omega), hc1, hm1, (hy4.kept hg5 (by omega) (fun p hp => ?_)).more (by omega), hc3, hm3, hbw4.grown hg5 hbw4.size (by rintro j ⟨⟩; omega)⟩
  · have := N1.out p hp; omega
  · have := N3.out p hp; omega
  · have := N1.out p hp; simp; omega
  · have := N3.out p hp; simp; omega

set_option maxRecDepth 100000 in
set_option maxHeartbeats 4000000 in
theorem edec_bad1 (b o c : Nat) (n : Int) (hn : (n != 0) = true) (w : World) (hc : 786 ≤ c) (hm : c ≤ maxLen)
    (hd1 : ∀ W, Below w.heap.size w W → Calls Tryz.prog 77 #[.slice (some ⟨b, o, none⟩) 393 c] W (SDecErr W n)) :
    Calls Tryz.prog 50 #[.slice (some ⟨b, o, none⟩) 786 c] w (EDecErr w n) := by
  have HD1 := Lib.hid hd1; clear hd1
  unfold maxLen at hm
  have i1 : (393 : Int) ≤ (c : Int) := by omega
  have i2 : ¬ c = 393 := by omega
  have i3 : (786 : Int) ≤ (c : Int) := by omega
  go_enter Tryz.func50, Tryz.ntmps50
  go_wp2_with fail
  have hR : Blk (w.alloc (Obj.cells zeroEc 51)) w.heap.size 51 zeroEc := Blk.new w _ _
  have hbW : Below w.heap.size w (w.alloc (Obj.cells zeroEc 51)) := (Below.refl _ _).alloc (Nat.le_refl _) _
  generalize (w.alloc (Obj.cells zeroEc 51)) = W at *
  refine (HD1.out _ hbW).mono ?_
  rintro en w1 ⟨rfl, hb1⟩
  have hR1 := hR.below hb1 hR.lt
  have hbw1 := hbW.trans (hb1.mono hbW.size)
  have hl1 := hR1.lt
  clear hR hbW hb1
  go_wp2_with (refine wpList_store_blk rfl 34 (.tmp 4) (.tmp 21) rfl w1.heap.size zeroSc rfl rfl 34 zeroSc (Blk.new w1 _ _) (by first | rfl | (rw [Sg.size_cells]; rfl)) (by first | exact size_sg | (rw [Sg.size_cells]; exact size_sg)) (fun u hu => one_zs hu) ?_)
  intro w2 hV2 hg2 hs2
  have hR2 := (hR1.alloc (Obj.cells zeroSc 34)).kept hg2 (by simp; omega)
  have hbw2 : Below w.heap.size w w2 := (hbw1.alloc hbw1.size _).grown hg2 (by have := hbw1.size; simp; omega) (by rintro j ⟨⟩; exact hbw1.size)
  have hne : w.heap.size ≠ w1.heap.size := by omega
  have hl12 : w1.heap.size < w2.heap.size := hV2.lt
  clear hR1 hbw1 hg2 hs2 hl1
  go_wp2_with (refine wpList_store_blk rfl 51 (.tmp 2) (.tmp 25) rfl w.heap.size zeroEc rfl rfl 51 _ hR2 rfl size_ev (fun u hu => one_ze hu) ?_)
  intro w5 hR5 hg5 hs5
  go_wp2
  exact bodyPost_ret (results_row_tmp (g := w.heap.size) (cs := zeroEc) rfl _ _ _ _ _ rfl hR5 Tryz.underlying51 rfl size_ev) rfl ⟨rfl, hbw2.grown hg5 hbw2.size (by rintro j ⟨⟩; omega)⟩

set_option maxRecDepth 100000 in
set_option maxHeartbeats 4000000 in
theorem edec_bad2 (b o c : Nat) (v : Vt) (sig : List UInt8) (n : Int) (hn : (n != 0) = true) (w : World) (hc : 786 ≤ c) (hm : c ≤ maxLen)
    (hd1 : ∀ W, Below w.heap.size w W → Calls Tryz.prog 77 #[.slice (some ⟨b, o, none⟩) 393 c] W (SDecOk W v sig))
    (hd2 : ∀ W, Below w.heap.size w W → Calls Tryz.prog 77 #[.slice (some ⟨b, o + 393, none⟩) 393 (c - 393)] W (SDecErr W n)) :
    Calls Tryz.prog 50 #[.slice (some ⟨b, o, none⟩) 786 c] w (EDecErr w n) := by
  have HD1 := Lib.hid hd1; clear hd1
  have HD2 := Lib.hid hd2; clear hd2
  unfold maxLen at hm
  have i1 : (393 : Int) ≤ (c : Int) := by omega
  have i2 : ¬ c = 393 := by omega
  have i3 : (786 : Int) ≤ (c : Int) := by omega
  go_enter Tryz.func50, Tryz.ntmps50
  go_wp2_with fail
  have hR : Blk (w.alloc (Obj.cells zeroEc 51)) w.heap.size 51 zeroEc := Blk.new w _ _
  have hbW : Below w.heap.size w (w.alloc (Obj.cells zeroEc 51)) := (Below.refl _ _).alloc (Nat.le_refl _) _
  generalize (w.alloc (Obj.cells zeroEc 51)) = W at *
  refine (HD1.out _ hbW).mono ?_
  rintro en w1 ⟨A1, c1, rfl, hn1, hr1, hc1, hm1, hb1⟩
  have H1 := Lib.hid hr1; clear hr1
  have N1 : Hid (∀ p, A1 = some p → w.heap.size + 1 ≤ p.block) := fun p hp => Nat.le_trans hR.lt (hn1 p hp)
  clear hn1
  have hR1 := hR.below hb1 hR.lt
  have hbw1 := hbW.trans (hb1.mono hbW.size)
  have hl1 := hR1.lt
  clear hR hbW hb1
  go_wp2_with (refine wpList_store_blk rfl 34 (.tmp 4) (.tmp 21) rfl w1.heap.size (Sg.mk v sig A1 c1).cells rfl rfl 34 zeroSc (Blk.new w1 _ _) (by first | rfl | (rw [Sg.size_cells]; rfl)) (by first | exact size_sg | (rw [Sg.size_cells]; exact size_sg)) (fun u hu => one_sg _ hu) ?_)
  intro w2 hV2 hg2 hs2
  have hR2 := (hR1.alloc (Obj.cells zeroSc 34)).kept hg2 (by simp; omega)
  have hbw2 : Below w.heap.size w w2 := (hbw1.alloc hbw1.size _).grown hg2 (by have := hbw1.size; simp; omega) (by rintro j ⟨⟩; exact hbw1.size)
  have hne : w.heap.size ≠ w1.heap.size := by omega
  have hl12 : w1.heap.size < w2.heap.size := hV2.lt
  have hr2 : Rd w2 w1.heap.size A1 (sig.map B) := (H1.out.alloc (Nat.le_refl _) (Obj.cells zeroSc 34)).keep fun p hp => World.cell?_of_block (hg2.block p.block (by simp; omega) (by simp; omega))
  clear hR1 hbw1 hg2 hs2 hl1
  go_wp2_with fail
  refine (HD2.out _ hbw2).mono ?_
  rintro en w3 ⟨rfl, hb3⟩
  have hV3 := hV2.below hb3 hV2.lt
  have hR3 := hR2.below hb3 hR2.lt
  have hbw3 := hbw2.trans (hb3.mono hbw2.size)
  have hr3 : Rd w3 w1.heap.size A1 (sig.map B) := hr2.below (hb3.mono (by omega))
  have hl3 := hR3.lt
  have hl13 := hV3.lt
  clear hR2 hbw2 hb3 hV2 hr2
  go_wp2_with (refine wpList_store_blk rfl 34 (.tmp 6) (.tmp 31) rfl w3.heap.size zeroSc rfl rfl 34 zeroSc (Blk.new w3 _ _) (by first | rfl | (rw [Sg.size_cells]; rfl)) (by first | exact size_sg | (rw [Sg.size_cells]; exact size_sg)) (fun u hu => one_zs hu) ?_)
  intro w4 hY4 hg4 hs4
  have hR4 := (hR3.alloc (Obj.cells zeroSc 34)).kept hg4 (by simp; omega)
  have hV4 := (hV3.alloc (Obj.cells zeroSc 34)).kept hg4 (by simp; omega)
  have hbw4 : Below w.heap.size w w4 := (hbw3.alloc hbw3.size _).grown hg4 (by have := hbw3.size; simp; omega) (by rintro j ⟨⟩; exact hbw3.size)
  have hl4 := hY4.lt
  have hr4 : Rd w4 w1.heap.size A1 (sig.map B) := (hr3.alloc (by omega) (Obj.cells zeroSc 34)).keep fun p hp => World.cell?_of_block (hg4.block p.block (by simp; omega) (by simp; omega))
  clear hR3 hbw3 hg4 hs4 hV3 hr3
  go_wp2_with (refine wpList_store_blk rfl 51 (.tmp 2) (.tmp 35) rfl w.heap.size zeroEc rfl rfl 51 _ hR4 rfl size_ev (fun u hu => one_ze hu) ?_)
  intro w5 hR5 hg5 hs5
  go_wp2
  exact bodyPost_ret (results_row_tmp (g := w.heap.size) (cs := zeroEc) rfl _ _ _ _ _ rfl hR5 Tryz.underlying51 rfl size_ev) rfl ⟨rfl, hbw4.grown hg5 hbw4.size (by rintro j ⟨⟩; omega)⟩

end Go.Proofs.YthmecidpjlaonaaGreat
namespace Go.Proofs.YthmecidpjlaonaaGreat
open Go.RowKit
attribute [local go_sem ↓] Go.wp_at_zero Go.wp_at_succ loadNm loadVt loadSg loadEv
attribute [local go_sem] runNm runVt runSg runEv pickRow_some rowAt_drew rowAt_drewN
set_option maxRecDepth 100000 in
set_option maxHeartbeats 4000000 in
theorem fault_1 (K : Option Addr) (n ck : Nat) (e : Ev) (before : Int) (w : World) (hconf : ∀ W, Calls Tryz.prog 61 #[e.a.vote.val, e.b.vote.val] W (BoolPost W false)) :
    Calls Tryz.prog 70 #[.slice K n ck, e.val, .int .i64 before] w (IntPost w 9) := by
  have HC := Lib.hid hconf; clear hconf
  have hE : Blk (w.alloc (Obj.cells e.cells 51)) w.heap.size 51 e.cells := Blk.new w _ _
  have hbW : Below w.heap.size w (w.alloc (Obj.cells e.cells 51)) := (Below.refl _ _).alloc (Nat.le_refl _) _
  have x0 := e.row_va hE
  have y0 := e.row_vb hE
  have s0 : (w.alloc (Obj.cells e.cells 51)).cell? ⟨w.heap.size, 4, none⟩ = some (I e.a.vote.signer) := (hE.cell 4).trans e.cell_signer
  go_enter Tryz.func70, Tryz.ntmps70
  go_wp2_with ((go_at_call 61; refine (HC.out _).mono ?_; rintro en w2 ⟨rfl, hb2⟩; have hE2 := hE.below hb2 hE.lt; have x2 := e.row_va hE2; have y2 := e.row_vb hE2; have s2 : w2.cell? ⟨w.heap.size, 4, none⟩ = some (I e.a.vote.signer) := (hE2.cell 4).trans e.cell_signer; have hbw2 := hbW.trans (hb2.mono hbW.size)))
  go_ret
  exact ⟨rfl, hbw2⟩

set_option maxRecDepth 100000 in
set_option maxHeartbeats 4000000 in
theorem fault_2 (K : Option Addr) (n ck : Nat) (e : Ev) (before : Int) (w : World) (hconf : ∀ W, Calls Tryz.prog 61 #[e.a.vote.val, e.b.vote.val] W (BoolPost W true)) (hless : ∀ W, Calls Tryz.prog 46 #[e.a.vote.val, e.b.vote.val] W (BoolPost W false)) :
    Calls Tryz.prog 70 #[.slice K n ck, e.val, .int .i64 before] w (IntPost w 9) := by
  have HC := Lib.hid hconf; clear hconf
  have HL := Lib.hid hless; clear hless
  have hE : Blk (w.alloc (Obj.cells e.cells 51)) w.heap.size 51 e.cells := Blk.new w _ _
  have hbW : Below w.heap.size w (w.alloc (Obj.cells e.cells 51)) := (Below.refl _ _).alloc (Nat.le_refl _) _
  have x0 := e.row_va hE
  have y0 := e.row_vb hE
  have s0 : (w.alloc (Obj.cells e.cells 51)).cell? ⟨w.heap.size, 4, none⟩ = some (I e.a.vote.signer) := (hE.cell 4).trans e.cell_signer
  go_enter Tryz.func70, Tryz.ntmps70
  go_wp2_with (first | (go_at_call 61; refine (HC.out _).mono ?_; rintro en w2 ⟨rfl, hb2⟩; have hE2 := hE.below hb2 hE.lt; have x2 := e.row_va hE2; have y2 := e.row_vb hE2; have s2 : w2.cell? ⟨w.heap.size, 4, none⟩ = some (I e.a.vote.signer) := (hE2.cell 4).trans e.cell_signer; have hbw2 := hbW.trans (hb2.mono hbW.size)) | (go_at_call 46; refine (HL.out _).mono ?_; rintro en w3 ⟨rfl, hb3⟩; have hE3 := hE2.below hb3 hE2.lt; have hbw3 := hbw2.trans (hb3.mono hbw2.size)))
  go_ret
  exact ⟨rfl, hbw3⟩

set_option maxRecDepth 100000 in
set_option maxHeartbeats 4000000 in
theorem fault_3 (K : Option Addr) (n ck : Nat) (e : Ev) (before : Int) (w : World) (sn : Nat) (hsn : e.a.vote.signer = (sn : Int)) (hle : (sn : Int) ≤ before) (hconf : ∀ W, Calls Tryz.prog 61 #[e.a.vote.val, e.b.vote.val] W (BoolPost W true)) (hless : ∀ W, Calls Tryz.prog 46 #[e.a.vote.val, e.b.vote.val] W (BoolPost W true)) :
    Calls Tryz.prog 70 #[.slice K n ck, e.val, .int .i64 before] w (IntPost w 10) := by
  have HC := Lib.hid hconf; clear hconf
  have HL := Lib.hid hless; clear hless
  have HS := Lib.hid hsn; clear hsn
  have hE : Blk (w.alloc (Obj.cells e.cells 51)) w.heap.size 51 e.cells := Blk.new w _ _
  have hbW : Below w.heap.size w (w.alloc (Obj.cells e.cells 51)) := (Below.refl _ _).alloc (Nat.le_refl _) _
  have x0 := e.row_va hE
  have y0 := e.row_vb hE
  have s0 : (w.alloc (Obj.cells e.cells 51)).cell? ⟨w.heap.size, 4, none⟩ = some (.int .i64 (sn : Int)) := by rw [← HS.out]; exact (hE.cell 4).trans e.cell_signer
  go_enter Tryz.func70, Tryz.ntmps70
  go_wp2_with (first | (go_at_call 61; refine (HC.out _).mono ?_; rintro en w2 ⟨rfl, hb2⟩; have hE2 := hE.below hb2 hE.lt; have x2 := e.row_va hE2; have y2 := e.row_vb hE2; have s2 : w2.cell? ⟨w.heap.size, 4, none⟩ = some (I e.a.vote.signer) := (hE2.cell 4).trans e.cell_signer; have hbw2 := hbW.trans (hb2.mono hbW.size)) | (go_at_call 46; refine (HL.out _).mono ?_; rintro en w3 ⟨rfl, hb3⟩; have hE3 := hE2.below hb3 hE2.lt; have hbw3 := hbw2.trans (hb3.mono hbw2.size)))
  go_ret
  exact ⟨rfl, hbw3⟩

set_option maxRecDepth 100000 in
set_option maxHeartbeats 4000000 in
theorem fault_4 (K : Option Addr) (n ck : Nat) (e : Ev) (before : Int) (w : World) (sn : Nat) (hsn : e.a.vote.signer = (sn : Int)) (hle : ¬ (sn : Int) ≤ before) (hk : (n : Int) ≤ (sn : Int)) (hconf : ∀ W, Calls Tryz.prog 61 #[e.a.vote.val, e.b.vote.val] W (BoolPost W true)) (hless : ∀ W, Calls Tryz.prog 46 #[e.a.vote.val, e.b.vote.val] W (BoolPost W true)) :
    Calls Tryz.prog 70 #[.slice K n ck, e.val, .int .i64 before] w (IntPost w 8) := by
  have HC := Lib.hid hconf; clear hconf
  have HL := Lib.hid hless; clear hless
  have HS := Lib.hid hsn; clear hsn
  have hd : decide ((n : Int) ≤ (sn : Int)) = true := by simp; omega
  have hd2 : decide (n ≤ sn) = true := by simp; omega
  have hE : Blk (w.alloc (Obj.cells e.cells 51)) w.heap.size 51 e.cells := Blk.new w _ _
  have hbW : Below w.heap.size w (w.alloc (Obj.cells e.cells 51)) := (Below.refl _ _).alloc (Nat.le_refl _) _
  have x0 := e.row_va hE
  have y0 := e.row_vb hE
  have s0 : (w.alloc (Obj.cells e.cells 51)).cell? ⟨w.heap.size, 4, none⟩ = some (.int .i64 (sn : Int)) := by rw [← HS.out]; exact (hE.cell 4).trans e.cell_signer
  go_enter Tryz.func70, Tryz.ntmps70
  go_upto_region 6 with (first | (go_at_call 61; refine (HC.out _).mono ?_; rintro en w2 ⟨rfl, hb2⟩; have hE2 := hE.below hb2 hE.lt; have x2 := e.row_va hE2; have y2 := e.row_vb hE2; have s2 : w2.cell? ⟨w.heap.size, 4, none⟩ = some (I e.a.vote.signer) := (hE2.cell 4).trans e.cell_signer; have hbw2 := hbW.trans (hb2.mono hbW.size)) | (go_at_call 46; refine (HL.out _).mono ?_; rintro en w3 ⟨rfl, hb3⟩; have hE3 := hE2.below hb3 hE2.lt; have hbw3 := hbw2.trans (hb3.mono hbw2.size)))
  refine wp_region_noPanic ?_
  refine wp_region_held_drew (S := fun _ => True) (by kernel_rfl) (trivial) (fun hHeld => ?_)
  refine wpAnyH_takeD (some 36) (i := 0) (v := ?vh0) rfl rfl (by kernel_rfl) (by kernel_rfl) (by kernel_rfl) (fun _ _ _ h => h) (by rfl) ?hh0 (by assumption) ?_
  case hh0 => (intro wq hSw; (try dsimp only at hSw); go_simp; (try (with_reducible rfl)))
  go_frame
  refine wpAnyH_takeD (some 37) (i := 1) (v := ?vh1) rfl rfl (by kernel_rfl) (by kernel_rfl) (by kernel_rfl) (fun _ _ _ h => h) (by rfl) ?hh1 (by assumption) ?_
  case hh1 => (intro wq hSw; (try dsimp only at hSw); go_simp; (try (with_reducible rfl)))
  go_frame
  refine wpAnyH_takeD (some 38) (i := 2) (v := ?vh2) rfl rfl (by kernel_rfl) (by kernel_rfl) (by kernel_rfl) (fun _ _ _ h => h) (by rfl) ?hh2 (by assumption) ?_
  case hh2 => (intro wq hSw; (try dsimp only at hSw); go_simp; (try (with_reducible rfl)))
  go_frame
  refine wpAnyH_takeD (some 39) (i := 3) (v := ?vh3) rfl rfl (by kernel_rfl) (by kernel_rfl) (by kernel_rfl) (fun _ _ _ h => h) (by rfl) ?hh3 (by assumption) ?_
  case hh3 => (intro wq hSw; (try dsimp only at hSw); go_simp; (try (with_reducible rfl)))
  go_frame
  refine wpAnyH_takeD (some 40) (i := 4) (v := ?vh4) rfl rfl (by kernel_rfl) (by kernel_rfl) (by kernel_rfl) (fun _ _ _ h => h) (by rfl) ?hh4 (by assumption) ?_
  case hh4 => (intro wq hSw; (try dsimp only at hSw); go_simp; (try (with_reducible rfl)))
  go_frame
  refine wpAnyH_skipD (some 41) (i := 5) rfl rfl (by kernel_rfl) (by kernel_rfl) (by kernel_rfl) (fun _ _ _ h => h) (by rfl) (by assumption) ?_
  go_frame
  refine wpAnyH_skipD (some 42) (i := 6) rfl rfl (by kernel_rfl) (by kernel_rfl) (by kernel_rfl) (fun _ _ _ h => h) (by rfl) (by assumption) ?_
  go_frame
  refine wpAnyH_skipD (some 43) (i := 7) rfl rfl (by kernel_rfl) (by kernel_rfl) (by kernel_rfl) (fun _ _ _ h => h) (by rfl) (by assumption) ?_
  go_frame
  refine wpAnyH_skipD (some 44) (i := 8) rfl rfl (by kernel_rfl) (by kernel_rfl) (by kernel_rfl) (fun _ _ _ h => h) (by rfl) (by assumption) ?_
  go_frame
  refine wpAnyH_skipD (some 45) (i := 9) rfl rfl (by kernel_rfl) (by kernel_rfl) (by kernel_rfl) (fun _ _ _ h => h) (by rfl) (by assumption) ?_
  go_frame
  refine wpAnyH_skipD (some 46) (i := 10) rfl rfl (by kernel_rfl) (by kernel_rfl) (by kernel_rfl) (fun _ _ _ h => h) (by rfl) (by assumption) ?_
  go_frame
  refine wpAnyH_skipD (some 47) (i := 11) rfl rfl (by kernel_rfl) (by kernel_rfl) (by kernel_rfl) (fun _ _ _ h => h) (by rfl) (by assumption) ?_
  go_frame
  refine wpAnyH_skipD (some 48) (i := 12) rfl rfl (by kernel_rfl) (by kernel_rfl) (by kernel_rfl) (fun _ _ _ h => h) (by rfl) (by assumption) ?_
  go_frame
  refine wpAnyH_takeD (some 49) (i := 13) (v := ?vh13) rfl rfl (by kernel_rfl) (by kernel_rfl) (by kernel_rfl) (fun _ _ _ h => h) (by rfl) ?hh13 (by assumption) ?_
  case hh13 => (intro wq hSw; (try dsimp only at hSw); go_simp; (try (with_reducible rfl)))
  go_frame
  refine wpAnyH_takeD (some 50) (i := 14) (v := ?vh14) rfl rfl (by kernel_rfl) (by kernel_rfl) (by kernel_rfl) (fun _ _ _ h => h) (by rfl) ?hh14 (by assumption) ?_
  case hh14 => (intro wq hSw; (try dsimp only at hSw); go_simp; (try (with_reducible rfl)))
  go_frame
  refine wpAnyH_skipD (some 51) (i := 15) rfl rfl (by kernel_rfl) (by kernel_rfl) (by kernel_rfl) (fun _ _ _ h => h) (by rfl) (by assumption) ?_
  go_frame
  refine wpAnyH_skipD (some 52) (i := 16) rfl rfl (by kernel_rfl) (by kernel_rfl) (by kernel_rfl) (fun _ _ _ h => h) (by rfl) (by assumption) ?_
  go_frame
  refine wpAnyH_skipD (some 53) (i := 17) rfl rfl (by kernel_rfl) (by kernel_rfl) (by kernel_rfl) (fun _ _ _ h => h) (by rfl) (by assumption) ?_
  go_frame
  refine wpAnyH_skipD (some 54) (i := 18) rfl rfl (by kernel_rfl) (by kernel_rfl) (by kernel_rfl) (fun _ _ _ h => h) (by rfl) (by assumption) ?_
  go_frame
  refine wpAnyH_skipD (some 55) (i := 19) rfl rfl (by kernel_rfl) (by kernel_rfl) (by kernel_rfl) (fun _ _ _ h => h) (by rfl) (by assumption) ?_
  go_frame
  refine wpAnyH_skipD (some 56) (i := 20) rfl rfl (by kernel_rfl) (by kernel_rfl) (by kernel_rfl) (fun _ _ _ h => h) (by rfl) (by assumption) ?_
  go_frame
  refine wpAnyH_skipD (some 57) (i := 21) rfl rfl (by kernel_rfl) (by kernel_rfl) (by kernel_rfl) (fun _ _ _ h => h) (by rfl) (by assumption) ?_
  go_frame
  refine wpAnyH_skipD (some 58) (i := 22) rfl rfl (by kernel_rfl) (by kernel_rfl) (by kernel_rfl) (fun _ _ _ h => h) (by rfl) (by assumption) ?_
  go_frame
  refine wpAnyH_takeD (some 59) (i := 23) (v := ?vh23) rfl rfl (by kernel_rfl) (by kernel_rfl) (by kernel_rfl) (fun _ _ _ h => h) (by rfl) ?hh23 (by assumption) ?_
  case hh23 => (intro wq hSw; (try dsimp only at hSw); go_simp; (try (with_reducible rfl)))
  go_frame
  refine wpAnyH_takeD (some 35) (i := 24) (v := ?vh24) rfl rfl (by kernel_rfl) (by kernel_rfl) (by kernel_rfl) (fun _ _ _ h => h) (by rfl) ?hh24 (by assumption) ?_
  case hh24 => (intro wq hSw; (try dsimp only at hSw); go_simp; (try (with_reducible rfl)))
  go_frame
  refine wpAnyH_done (by kernel_rfl) ?_ _
  refine NoPanic.normal ?_
  go_wp2
  go_ret
  exact ⟨rfl, hbw3.drew⟩

set_option maxRecDepth 100000 in
set_option maxHeartbeats 4000000 in
theorem fault_5 (K : Option Addr) (n ck : Nat) (e : Ev) (before : Int) (w : World) (sn : Nat) (hsn : e.a.vote.signer = (sn : Int)) (hle : ¬ (sn : Int) ≤ before)  (b o : Nat) (hK : K = some ⟨b, o, none⟩) (key : Nm) (hk : (sn : Int) < (n : Int)) (hkey : ∀ W, Below w.heap.size w W → rowAt W b (o + sn * 8) 8 = some key.cells) (hv1 : ∀ W, Below w.heap.size w W → Calls Tryz.prog 20 #[key.val, e.a.val] W (BoolPost W false)) (hconf : ∀ W, Calls Tryz.prog 61 #[e.a.vote.val, e.b.vote.val] W (BoolPost W true)) (hless : ∀ W, Calls Tryz.prog 46 #[e.a.vote.val, e.b.vote.val] W (BoolPost W true)) :
    Calls Tryz.prog 70 #[.slice K n ck, e.val, .int .i64 before] w (IntPost w 8) := by
  have HC := Lib.hid hconf; clear hconf
  have HL := Lib.hid hless; clear hless
  have HS := Lib.hid hsn; clear hsn
  subst hK
  have HK := Lib.hid hkey; clear hkey
  have HV1 := Lib.hid hv1; clear hv1
  have i1 : (0 : Int) ≤ (sn : Int) := by omega
  have hd : decide ((n : Int) ≤ (sn : Int)) = false := by simp; omega
  have hd2 : decide (n ≤ sn) = false := by simp; omega
  have hE : Blk (w.alloc (Obj.cells e.cells 51)) w.heap.size 51 e.cells := Blk.new w _ _
  have hbW : Below w.heap.size w (w.alloc (Obj.cells e.cells 51)) := (Below.refl _ _).alloc (Nat.le_refl _) _
  have x0 := e.row_va hE
  have y0 := e.row_vb hE
  have s0 : (w.alloc (Obj.cells e.cells 51)).cell? ⟨w.heap.size, 4, none⟩ = some (.int .i64 (sn : Int)) := by rw [← HS.out]; exact (hE.cell 4).trans e.cell_signer
  go_enter Tryz.func70, Tryz.ntmps70
  go_upto_region 6 with (first | (go_at_call 61; refine (HC.out _).mono ?_; rintro en w2 ⟨rfl, hb2⟩; have hE2 := hE.below hb2 hE.lt; have x2 := e.row_va hE2; have y2 := e.row_vb hE2; have s2 : w2.cell? ⟨w.heap.size, 4, none⟩ = some (I e.a.vote.signer) := (hE2.cell 4).trans e.cell_signer; have hbw2 := hbW.trans (hb2.mono hbW.size)) | (go_at_call 46; refine (HL.out _).mono ?_; rintro en w3 ⟨rfl, hb3⟩; have hE3 := hE2.below hb3 hE2.lt; have hbw3 := hbw2.trans (hb3.mono hbw2.size)))
  refine wp_region_noPanic ?_
  refine wp_region_held_drew (S := fun w' => rowAt w' b (o + sn * 8) 8 = some key.cells ∧ rowAt w' w.heap.size 0 23 = some e.a.cells ∧ rowAt w' w.heap.size 23 23 = some e.b.cells) (by kernel_rfl) (⟨HK.out _ hbw3.drew, e.row_a hE3.drew, e.row_b hE3.drew⟩) (fun hHeld => ?_)
  refine wpAnyH_takeD (some 36) (i := 0) (v := ?vh0) rfl rfl (by kernel_rfl) (by kernel_rfl) (by kernel_rfl) (fun _ _ _ h => h) (by rfl) ?hh0 (by assumption) ?_
  case hh0 => (intro wq hSw; (try dsimp only at hSw); go_simp; (try (with_reducible rfl)))
  go_frame
  refine wpAnyH_takeD (some 37) (i := 1) (v := ?vh1) rfl rfl (by kernel_rfl) (by kernel_rfl) (by kernel_rfl) (fun _ _ _ h => h) (by rfl) ?hh1 (by assumption) ?_
  case hh1 => (intro wq hSw; (try dsimp only at hSw); go_simp; (try (with_reducible rfl)))
  go_frame
  refine wpAnyH_takeD (some 38) (i := 2) (v := ?vh2) rfl rfl (by kernel_rfl) (by kernel_rfl) (by kernel_rfl) (fun _ _ _ h => h) (by rfl) ?hh2 (by assumption) ?_
  case hh2 => (intro wq hSw; (try dsimp only at hSw); go_simp; (try (with_reducible rfl)))
  go_frame
  refine wpAnyH_takeD (some 39) (i := 3) (v := ?vh3) rfl rfl (by kernel_rfl) (by kernel_rfl) (by kernel_rfl) (fun _ _ _ h => h) (by rfl) ?hh3 (by assumption) ?_
  case hh3 => (intro wq hSw; (try dsimp only at hSw); go_simp; (try (with_reducible rfl)))
  go_frame
  refine wpAnyH_takeD (some 40) (i := 4) (v := ?vh4) rfl rfl (by kernel_rfl) (by kernel_rfl) (by kernel_rfl) (fun _ _ _ h => h) (by rfl) ?hh4 (by assumption) ?_
  case hh4 => (intro wq hSw; (try dsimp only at hSw); go_simp; (try (with_reducible rfl)))
  go_frame
  refine wpAnyH_takeD (some 41) (i := 5) (v := ?vh5) rfl rfl (by kernel_rfl) (by kernel_rfl) (by kernel_rfl) (fun _ _ _ h => h) (by rfl) ?hh5 (by assumption) ?_
  case hh5 => (intro wq hSw; (try dsimp only at hSw); go_simp; (try (with_reducible rfl)))
  go_frame
  refine wpAnyH_takeD (some 42) (i := 6) (v := ?vh6) rfl rfl (by kernel_rfl) (by kernel_rfl) (by kernel_rfl) (fun _ _ _ h => h) (by rfl) ?hh6 (by assumption) ?_
  case hh6 => (intro wq hSw; (try dsimp only at hSw); go_simp; (try (with_reducible rfl)))
  go_frame
  refine wpAnyH_takeD (some 43) (i := 7) (v := ?vh7) rfl rfl (by kernel_rfl) (by kernel_rfl) (by kernel_rfl) (fun _ _ _ h => h) (by rfl) ?hh7 (by assumption) ?_
  case hh7 => (intro wq hSw; (try dsimp only at hSw); go_simp; (try (with_reducible rfl)))
  go_frame
  refine wpAnyH_takeD (some 44) (i := 8) (v := ?vh8) rfl rfl (by kernel_rfl) (by kernel_rfl) (by kernel_rfl) (fun _ _ _ h => h) (by rfl) ?hh8 (by assumption) ?_
  case hh8 => (intro wq hSw; (try dsimp only at hSw); go_simp; (try (with_reducible rfl)))
  go_frame
  refine wpAnyH_takeD (some 45) (i := 9) (v := ?vh9) rfl rfl (by kernel_rfl) (by kernel_rfl) (by kernel_rfl) (fun _ _ _ h => h) (by rfl) ?hh9 (by assumption) ?_
  case hh9 => (intro wq hSw; (try dsimp only at hSw); go_simp; (try (with_reducible rfl)))
  go_frame
  refine wpAnyH_takeD (some 46) (i := 10) (v := ?vh10) rfl rfl (by kernel_rfl) (by kernel_rfl) (by kernel_rfl) (fun _ _ _ h => h) (by rfl) ?hh10 (by assumption) ?_
  case hh10 => (intro wq hSw; (try dsimp only at hSw); go_simp; (try (with_reducible rfl)))
  go_frame
  refine wpAnyH_ready (rs := [11]) (by kernel_rfl) (by simp) ?_
  refine AllReadyH.cons rfl (fun K hK => ?_) AllReadyH.nil
  go_simp
  refine (HV1.out _ hbw3.drew).mono ?_; rintro en w4 ⟨rfl, hb4⟩; have hE4 := hE3.drew.below hb4 hE3.lt; have hbw4 := hbw3.trans (((Below.refl _ _).drew.trans hb4).mono hbw3.size)
  go_wp2_with fail
  refine hK.out _ _ (⟨HK.out _ hbw4, e.row_a hE4, e.row_b hE4⟩) (fun hHeld => ?_)
  clear hK K
  try go_frame
  refine wpAnyH_takeD (some 48) (i := 12) (v := ?vh12) rfl rfl (by kernel_rfl) (by kernel_rfl) (by kernel_rfl) (fun _ _ _ h => h) (by rfl) ?hh12 (by assumption) ?_
  case hh12 => (intro wq hSw; (try dsimp only at hSw); go_simp; (try (with_reducible rfl)))
  go_frame
  refine wpAnyH_takeD (some 49) (i := 13) (v := ?vh13) rfl rfl (by kernel_rfl) (by kernel_rfl) (by kernel_rfl) (fun _ _ _ h => h) (by rfl) ?hh13 (by assumption) ?_
  case hh13 => (intro wq hSw; (try dsimp only at hSw); go_simp; (try (with_reducible rfl)))
  go_frame
  refine wpAnyH_takeD (some 50) (i := 14) (v := ?vh14) rfl rfl (by kernel_rfl) (by kernel_rfl) (by kernel_rfl) (fun _ _ _ h => h) (by rfl) ?hh14 (by assumption) ?_
  case hh14 => (intro wq hSw; (try dsimp only at hSw); go_simp; (try (with_reducible rfl)))
  go_frame
  refine wpAnyH_skipD (some 51) (i := 15) rfl rfl (by kernel_rfl) (by kernel_rfl) (by kernel_rfl) (fun _ _ _ h => h) (by rfl) (by assumption) ?_
  go_frame
  refine wpAnyH_skipD (some 52) (i := 16) rfl rfl (by kernel_rfl) (by kernel_rfl) (by kernel_rfl) (fun _ _ _ h => h) (by rfl) (by assumption) ?_
  go_frame
  refine wpAnyH_skipD (some 53) (i := 17) rfl rfl (by kernel_rfl) (by kernel_rfl) (by kernel_rfl) (fun _ _ _ h => h) (by rfl) (by assumption) ?_
  go_frame
  refine wpAnyH_skipD (some 54) (i := 18) rfl rfl (by kernel_rfl) (by kernel_rfl) (by kernel_rfl) (fun _ _ _ h => h) (by rfl) (by assumption) ?_
  go_frame
  refine wpAnyH_skipD (some 55) (i := 19) rfl rfl (by kernel_rfl) (by kernel_rfl) (by kernel_rfl) (fun _ _ _ h => h) (by rfl) (by assumption) ?_
  go_frame
  refine wpAnyH_skipD (some 56) (i := 20) rfl rfl (by kernel_rfl) (by kernel_rfl) (by kernel_rfl) (fun _ _ _ h => h) (by rfl) (by assumption) ?_
  go_frame
  refine wpAnyH_skipD (some 57) (i := 21) rfl rfl (by kernel_rfl) (by kernel_rfl) (by kernel_rfl) (fun _ _ _ h => h) (by rfl) (by assumption) ?_
  go_frame
  refine wpAnyH_skipD (some 58) (i := 22) rfl rfl (by kernel_rfl) (by kernel_rfl) (by kernel_rfl) (fun _ _ _ h => h) (by rfl) (by assumption) ?_
  go_frame
  refine wpAnyH_takeD (some 59) (i := 23) (v := ?vh23) rfl rfl (by kernel_rfl) (by kernel_rfl) (by kernel_rfl) (fun _ _ _ h => h) (by rfl) ?hh23 (by assumption) ?_
  case hh23 => (intro wq hSw; (try dsimp only at hSw); go_simp; (try (with_reducible rfl)))
  go_frame
  refine wpAnyH_takeD (some 35) (i := 24) (v := ?vh24) rfl rfl (by kernel_rfl) (by kernel_rfl) (by kernel_rfl) (fun _ _ _ h => h) (by rfl) ?hh24 (by assumption) ?_
  case hh24 => (intro wq hSw; (try dsimp only at hSw); go_simp; (try (with_reducible rfl)))
  go_frame
  refine wpAnyH_done (by kernel_rfl) ?_ _
  refine NoPanic.normal ?_
  go_wp2
  go_ret
  exact ⟨rfl, hbw4⟩

set_option maxRecDepth 100000 in
set_option maxHeartbeats 4000000 in
theorem fault_6 (K : Option Addr) (n ck : Nat) (e : Ev) (before : Int) (w : World) (sn : Nat) (hsn : e.a.vote.signer = (sn : Int)) (hle : ¬ (sn : Int) ≤ before)  (b o : Nat) (hK : K = some ⟨b, o, none⟩) (key : Nm) (hk : (sn : Int) < (n : Int)) (hkey : ∀ W, Below w.heap.size w W → rowAt W b (o + sn * 8) 8 = some key.cells) (hv1 : ∀ W, Below w.heap.size w W → Calls Tryz.prog 20 #[key.val, e.a.val] W (BoolPost W true)) (hv2 : ∀ W, Below w.heap.size w W → Calls Tryz.prog 20 #[key.val, e.b.val] W (BoolPost W false)) (hconf : ∀ W, Calls Tryz.prog 61 #[e.a.vote.val, e.b.vote.val] W (BoolPost W true)) (hless : ∀ W, Calls Tryz.prog 46 #[e.a.vote.val, e.b.vote.val] W (BoolPost W true)) :
    Calls Tryz.prog 70 #[.slice K n ck, e.val, .int .i64 before] w (IntPost w 8) := by
  have HC := Lib.hid hconf; clear hconf
  have HL := Lib.hid hless; clear hless
  have HS := Lib.hid hsn; clear hsn
  subst hK
  have HK := Lib.hid hkey; clear hkey
  have HV1 := Lib.hid hv1; clear hv1
  have HV2 := Lib.hid hv2; clear hv2
  have i1 : (0 : Int) ≤ (sn : Int) := by omega
  have hd : decide ((n : Int) ≤ (sn : Int)) = false := by simp; omega
  have hd2 : decide (n ≤ sn) = false := by simp; omega
  have hE : Blk (w.alloc (Obj.cells e.cells 51)) w.heap.size 51 e.cells := Blk.new w _ _
  have hbW : Below w.heap.size w (w.alloc (Obj.cells e.cells 51)) := (Below.refl _ _).alloc (Nat.le_refl _) _
  have x0 := e.row_va hE
  have y0 := e.row_vb hE
  have s0 : (w.alloc (Obj.cells e.cells 51)).cell? ⟨w.heap.size, 4, none⟩ = some (.int .i64 (sn : Int)) := by rw [← HS.out]; exact (hE.cell 4).trans e.cell_signer
  go_enter Tryz.func70, Tryz.ntmps70
  go_upto_region 6 with (first | (go_at_call 61; refine (HC.out _).mono ?_; rintro en w2 ⟨rfl, hb2⟩; have hE2 := hE.below hb2 hE.lt; have x2 := e.row_va hE2; have y2 := e.row_vb hE2; have s2 : w2.cell? ⟨w.heap.size, 4, none⟩ = some (I e.a.vote.signer) := (hE2.cell 4).trans e.cell_signer; have hbw2 := hbW.trans (hb2.mono hbW.size)) | (go_at_call 46; refine (HL.out _).mono ?_; rintro en w3 ⟨rfl, hb3⟩; have hE3 := hE2.below hb3 hE2.lt; have hbw3 := hbw2.trans (hb3.mono hbw2.size)))
  refine wp_region_noPanic ?_
  refine wp_region_held_drew (S := fun w' => rowAt w' b (o + sn * 8) 8 = some key.cells ∧ rowAt w' w.heap.size 0 23 = some e.a.cells ∧ rowAt w' w.heap.size 23 23 = some e.b.cells) (by kernel_rfl) (⟨HK.out _ hbw3.drew, e.row_a hE3.drew, e.row_b hE3.drew⟩) (fun hHeld => ?_)
  refine wpAnyH_takeD (some 36) (i := 0) (v := ?vh0) rfl rfl (by kernel_rfl) (by kernel_rfl) (by kernel_rfl) (fun _ _ _ h => h) (by rfl) ?hh0 (by assumption) ?_
  case hh0 => (intro wq hSw; (try dsimp only at hSw); go_simp; (try (with_reducible rfl)))
  go_frame
  refine wpAnyH_takeD (some 37) (i := 1) (v := ?vh1) rfl rfl (by kernel_rfl) (by kernel_rfl) (by kernel_rfl) (fun _ _ _ h => h) (by rfl) ?hh1 (by assumption) ?_
  case hh1 => (intro wq hSw; (try dsimp only at hSw); go_simp; (try (with_reducible rfl)))
  go_frame
  refine wpAnyH_takeD (some 38) (i := 2) (v := ?vh2) rfl rfl (by kernel_rfl) (by kernel_rfl) (by kernel_rfl) (fun _ _ _ h => h) (by rfl) ?hh2 (by assumption) ?_
  case hh2 => (intro wq hSw; (try dsimp only at hSw); go_simp; (try (with_reducible rfl)))
  go_frame
  refine wpAnyH_takeD (some 39) (i := 3) (v := ?vh3) rfl rfl (by kernel_rfl) (by kernel_rfl) (by kernel_rfl) (fun _ _ _ h => h) (by rfl) ?hh3 (by assumption) ?_
  case hh3 => (intro wq hSw; (try dsimp only at hSw); go_simp; (try (with_reducible rfl)))
  go_frame
  refine wpAnyH_takeD (some 40) (i := 4) (v := ?vh4) rfl rfl (by kernel_rfl) (by kernel_rfl) (by kernel_rfl) (fun _ _ _ h => h) (by rfl) ?hh4 (by assumption) ?_
  case hh4 => (intro wq hSw; (try dsimp only at hSw); go_simp; (try (with_reducible rfl)))
  go_frame
  refine wpAnyH_takeD (some 41) (i := 5) (v := ?vh5) rfl rfl (by kernel_rfl) (by kernel_rfl) (by kernel_rfl) (fun _ _ _ h => h) (by rfl) ?hh5 (by assumption) ?_
  case hh5 => (intro wq hSw; (try dsimp only at hSw); go_simp; (try (with_reducible rfl)))
  go_frame
  refine wpAnyH_takeD (some 42) (i := 6) (v := ?vh6) rfl rfl (by kernel_rfl) (by kernel_rfl) (by kernel_rfl) (fun _ _ _ h => h) (by rfl) ?hh6 (by assumption) ?_
  case hh6 => (intro wq hSw; (try dsimp only at hSw); go_simp; (try (with_reducible rfl)))
  go_frame
  refine wpAnyH_takeD (some 43) (i := 7) (v := ?vh7) rfl rfl (by kernel_rfl) (by kernel_rfl) (by kernel_rfl) (fun _ _ _ h => h) (by rfl) ?hh7 (by assumption) ?_
  case hh7 => (intro wq hSw; (try dsimp only at hSw); go_simp; (try (with_reducible rfl)))
  go_frame
  refine wpAnyH_takeD (some 44) (i := 8) (v := ?vh8) rfl rfl (by kernel_rfl) (by kernel_rfl) (by kernel_rfl) (fun _ _ _ h => h) (by rfl) ?hh8 (by assumption) ?_
  case hh8 => (intro wq hSw; (try dsimp only at hSw); go_simp; (try (with_reducible rfl)))
  go_frame
  refine wpAnyH_takeD (some 45) (i := 9) (v := ?vh9) rfl rfl (by kernel_rfl) (by kernel_rfl) (by kernel_rfl) (fun _ _ _ h => h) (by rfl) ?hh9 (by assumption) ?_
  case hh9 => (intro wq hSw; (try dsimp only at hSw); go_simp; (try (with_reducible rfl)))
  go_frame
  refine wpAnyH_takeD (some 46) (i := 10) (v := ?vh10) rfl rfl (by kernel_rfl) (by kernel_rfl) (by kernel_rfl) (fun _ _ _ h => h) (by rfl) ?hh10 (by assumption) ?_
  case hh10 => (intro wq hSw; (try dsimp only at hSw); go_simp; (try (with_reducible rfl)))
  go_frame
  refine wpAnyH_ready (rs := [11]) (by kernel_rfl) (by simp) ?_
  refine AllReadyH.cons rfl (fun K hK => ?_) AllReadyH.nil
  go_simp
  refine (HV1.out _ hbw3.drew).mono ?_; rintro en w4 ⟨rfl, hb4⟩; have hE4 := hE3.drew.below hb4 hE3.lt; have hbw4 := hbw3.trans (((Below.refl _ _).drew.trans hb4).mono hbw3.size)
  go_wp2_with fail
  refine hK.out _ _ (⟨HK.out _ hbw4, e.row_a hE4, e.row_b hE4⟩) (fun hHeld => ?_)
  clear hK K
  try go_frame
  refine wpAnyH_takeD (some 48) (i := 12) (v := ?vh12) rfl rfl (by kernel_rfl) (by kernel_rfl) (by kernel_rfl) (fun _ _ _ h => h) (by rfl) ?hh12 (by assumption) ?_
  case hh12 => (intro wq hSw; (try dsimp only at hSw); go_simp; (try (with_reducible rfl)))
  go_frame
  refine wpAnyH_takeD (some 49) (i := 13) (v := ?vh13) rfl rfl (by kernel_rfl) (by kernel_rfl) (by kernel_rfl) (fun _ _ _ h => h) (by rfl) ?hh13 (by assumption) ?_
  case hh13 => (intro wq hSw; (try dsimp only at hSw); go_simp; (try (with_reducible rfl)))
  go_frame
  refine wpAnyH_takeD (some 50) (i := 14) (v := ?vh14) rfl rfl (by kernel_rfl) (by kernel_rfl) (by kernel_rfl) (fun _ _ _ h => h) (by rfl) ?hh14 (by assumption) ?_
  case hh14 => (intro wq hSw; (try dsimp only at hSw); go_simp; (try (with_reducible rfl)))
  go_frame
  refine wpAnyH_takeD (some 51) (i := 15) (v := ?vh15) rfl rfl (by kernel_rfl) (by kernel_rfl) (by kernel_rfl) (fun _ _ _ h => h) (by rfl) ?hh15 (by assumption) ?_
  case hh15 => (intro wq hSw; (try dsimp only at hSw); go_simp; (try (with_reducible rfl)))
  go_frame
  refine wpAnyH_takeD (some 52) (i := 16) (v := ?vh16) rfl rfl (by kernel_rfl) (by kernel_rfl) (by kernel_rfl) (fun _ _ _ h => h) (by rfl) ?hh16 (by assumption) ?_
  case hh16 => (intro wq hSw; (try dsimp only at hSw); go_simp; (try (with_reducible rfl)))
  go_frame
  refine wpAnyH_takeD (some 53) (i := 17) (v := ?vh17) rfl rfl (by kernel_rfl) (by kernel_rfl) (by kernel_rfl) (fun _ _ _ h => h) (by rfl) ?hh17 (by assumption) ?_
  case hh17 => (intro wq hSw; (try dsimp only at hSw); go_simp; (try (with_reducible rfl)))
  go_frame
  refine wpAnyH_takeD (some 54) (i := 18) (v := ?vh18) rfl rfl (by kernel_rfl) (by kernel_rfl) (by kernel_rfl) (fun _ _ _ h => h) (by rfl) ?hh18 (by assumption) ?_
  case hh18 => (intro wq hSw; (try dsimp only at hSw); go_simp; (try (with_reducible rfl)))
  go_frame
  refine wpAnyH_takeD (some 55) (i := 19) (v := ?vh19) rfl rfl (by kernel_rfl) (by kernel_rfl) (by kernel_rfl) (fun _ _ _ h => h) (by rfl) ?hh19 (by assumption) ?_
  case hh19 => (intro wq hSw; (try dsimp only at hSw); go_simp; (try (with_reducible rfl)))
  go_frame
  refine wpAnyH_takeD (some 56) (i := 20) (v := ?vh20) rfl rfl (by kernel_rfl) (by kernel_rfl) (by kernel_rfl) (fun _ _ _ h => h) (by rfl) ?hh20 (by assumption) ?_
  case hh20 => (intro wq hSw; (try dsimp only at hSw); go_simp; (try (with_reducible rfl)))
  go_frame
  refine wpAnyH_ready (rs := [21]) (by kernel_rfl) (by simp) ?_
  refine AllReadyH.cons rfl (fun K hK => ?_) AllReadyH.nil
  go_simp
  refine (HV2.out _ hbw4).mono ?_; rintro en w5 ⟨rfl, hb5⟩; have hE5 := hE4.below hb5 hE4.lt; have hbw5 := hbw4.trans (hb5.mono hbw4.size)
  go_wp2_with fail
  refine hK.out _ _ (⟨HK.out _ hbw5, e.row_a hE5, e.row_b hE5⟩) (fun hHeld => ?_)
  clear hK K
  try go_frame
  refine wpAnyH_takeD (some 58) (i := 22) (v := ?vh22) rfl rfl (by kernel_rfl) (by kernel_rfl) (by kernel_rfl) (fun _ _ _ h => h) (by rfl) ?hh22 (by assumption) ?_
  case hh22 => (intro wq hSw; (try dsimp only at hSw); go_simp; (try (with_reducible rfl)))
  go_frame
  refine wpAnyH_takeD (some 59) (i := 23) (v := ?vh23) rfl rfl (by kernel_rfl) (by kernel_rfl) (by kernel_rfl) (fun _ _ _ h => h) (by rfl) ?hh23 (by assumption) ?_
  case hh23 => (intro wq hSw; (try dsimp only at hSw); go_simp; (try (with_reducible rfl)))
  go_frame
  refine wpAnyH_takeD (some 35) (i := 24) (v := ?vh24) rfl rfl (by kernel_rfl) (by kernel_rfl) (by kernel_rfl) (fun _ _ _ h => h) (by rfl) ?hh24 (by assumption) ?_
  case hh24 => (intro wq hSw; (try dsimp only at hSw); go_simp; (try (with_reducible rfl)))
  go_frame
  refine wpAnyH_done (by kernel_rfl) ?_ _
  refine NoPanic.normal ?_
  go_wp2
  go_ret
  exact ⟨rfl, hbw5⟩

set_option maxRecDepth 100000 in
set_option maxHeartbeats 4000000 in
theorem fault_7 (K : Option Addr) (n ck : Nat) (e : Ev) (before : Int) (w : World) (sn : Nat) (hsn : e.a.vote.signer = (sn : Int)) (hle : ¬ (sn : Int) ≤ before)  (b o : Nat) (hK : K = some ⟨b, o, none⟩) (key : Nm) (hk : (sn : Int) < (n : Int)) (hkey : ∀ W, Below w.heap.size w W → rowAt W b (o + sn * 8) 8 = some key.cells) (hv1 : ∀ W, Below w.heap.size w W → Calls Tryz.prog 20 #[key.val, e.a.val] W (BoolPost W true)) (hv2 : ∀ W, Below w.heap.size w W → Calls Tryz.prog 20 #[key.val, e.b.val] W (BoolPost W true)) (hconf : ∀ W, Calls Tryz.prog 61 #[e.a.vote.val, e.b.vote.val] W (BoolPost W true)) (hless : ∀ W, Calls Tryz.prog 46 #[e.a.vote.val, e.b.vote.val] W (BoolPost W true)) :
    Calls Tryz.prog 70 #[.slice K n ck, e.val, .int .i64 before] w (IntPost w 0) := by
  have HC := Lib.hid hconf; clear hconf
  have HL := Lib.hid hless; clear hless
  have HS := Lib.hid hsn; clear hsn
  subst hK
  have HK := Lib.hid hkey; clear hkey
  have HV1 := Lib.hid hv1; clear hv1
  have HV2 := Lib.hid hv2; clear hv2
  have i1 : (0 : Int) ≤ (sn : Int) := by omega
  have hd : decide ((n : Int) ≤ (sn : Int)) = false := by simp; omega
  have hd2 : decide (n ≤ sn) = false := by simp; omega
  have hE : Blk (w.alloc (Obj.cells e.cells 51)) w.heap.size 51 e.cells := Blk.new w _ _
  have hbW : Below w.heap.size w (w.alloc (Obj.cells e.cells 51)) := (Below.refl _ _).alloc (Nat.le_refl _) _
  have x0 := e.row_va hE
  have y0 := e.row_vb hE
  have s0 : (w.alloc (Obj.cells e.cells 51)).cell? ⟨w.heap.size, 4, none⟩ = some (.int .i64 (sn : Int)) := by rw [← HS.out]; exact (hE.cell 4).trans e.cell_signer
  go_enter Tryz.func70, Tryz.ntmps70
  go_upto_region 6 with (first | (go_at_call 61; refine (HC.out _).mono ?_; rintro en w2 ⟨rfl, hb2⟩; have hE2 := hE.below hb2 hE.lt; have x2 := e.row_va hE2; have y2 := e.row_vb hE2; have s2 : w2.cell? ⟨w.heap.size, 4, none⟩ = some (I e.a.vote.signer) := (hE2.cell 4).trans e.cell_signer; have hbw2 := hbW.trans (hb2.mono hbW.size)) | (go_at_call 46; refine (HL.out _).mono ?_; rintro en w3 ⟨rfl, hb3⟩; have hE3 := hE2.below hb3 hE2.lt; have hbw3 := hbw2.trans (hb3.mono hbw2.size)))
  refine wp_region_noPanic ?_
  refine wp_region_held_drew (S := fun w' => rowAt w' b (o + sn * 8) 8 = some key.cells ∧ rowAt w' w.heap.size 0 23 = some e.a.cells ∧ rowAt w' w.heap.size 23 23 = some e.b.cells) (by kernel_rfl) (⟨HK.out _ hbw3.drew, e.row_a hE3.drew, e.row_b hE3.drew⟩) (fun hHeld => ?_)
  refine wpAnyH_takeD (some 36) (i := 0) (v := ?vh0) rfl rfl (by kernel_rfl) (by kernel_rfl) (by kernel_rfl) (fun _ _ _ h => h) (by rfl) ?hh0 (by assumption) ?_
  case hh0 => (intro wq hSw; (try dsimp only at hSw); go_simp; (try (with_reducible rfl)))
  go_frame
  refine wpAnyH_takeD (some 37) (i := 1) (v := ?vh1) rfl rfl (by kernel_rfl) (by kernel_rfl) (by kernel_rfl) (fun _ _ _ h => h) (by rfl) ?hh1 (by assumption) ?_
  case hh1 => (intro wq hSw; (try dsimp only at hSw); go_simp; (try (with_reducible rfl)))
  go_frame
  refine wpAnyH_takeD (some 38) (i := 2) (v := ?vh2) rfl rfl (by kernel_rfl) (by kernel_rfl) (by kernel_rfl) (fun _ _ _ h => h) (by rfl) ?hh2 (by assumption) ?_
  case hh2 => (intro wq hSw; (try dsimp only at hSw); go_simp; (try (with_reducible rfl)))
  go_frame
  refine wpAnyH_takeD (some 39) (i := 3) (v := ?vh3) rfl rfl (by kernel_rfl) (by kernel_rfl) (by kernel_rfl) (fun _ _ _ h => h) (by rfl) ?hh3 (by assumption) ?_
  case hh3 => (intro wq hSw; (try dsimp only at hSw); go_simp; (try (with_reducible rfl)))
  go_frame
  refine wpAnyH_takeD (some 40) (i := 4) (v := ?vh4) rfl rfl (by kernel_rfl) (by kernel_rfl) (by kernel_rfl) (fun _ _ _ h => h) (by rfl) ?hh4 (by assumption) ?_
  case hh4 => (intro wq hSw; (try dsimp only at hSw); go_simp; (try (with_reducible rfl)))
  go_frame
  refine wpAnyH_takeD (some 41) (i := 5) (v := ?vh5) rfl rfl (by kernel_rfl) (by kernel_rfl) (by kernel_rfl) (fun _ _ _ h => h) (by rfl) ?hh5 (by assumption) ?_
  case hh5 => (intro wq hSw; (try dsimp only at hSw); go_simp; (try (with_reducible rfl)))
  go_frame
  refine wpAnyH_takeD (some 42) (i := 6) (v := ?vh6) rfl rfl (by kernel_rfl) (by kernel_rfl) (by kernel_rfl) (fun _ _ _ h => h) (by rfl) ?hh6 (by assumption) ?_
  case hh6 => (intro wq hSw; (try dsimp only at hSw); go_simp; (try (with_reducible rfl)))
  go_frame
  refine wpAnyH_takeD (some 43) (i := 7) (v := ?vh7) rfl rfl (by kernel_rfl) (by kernel_rfl) (by kernel_rfl) (fun _ _ _ h => h) (by rfl) ?hh7 (by assumption) ?_
  case hh7 => (intro wq hSw; (try dsimp only at hSw); go_simp; (try (with_reducible rfl)))
  go_frame
  refine wpAnyH_takeD (some 44) (i := 8) (v := ?vh8) rfl rfl (by kernel_rfl) (by kernel_rfl) (by kernel_rfl) (fun _ _ _ h => h) (by rfl) ?hh8 (by assumption) ?_
  case hh8 => (intro wq hSw; (try dsimp only at hSw); go_simp; (try (with_reducible rfl)))
  go_frame
  refine wpAnyH_takeD (some 45) (i := 9) (v := ?vh9) rfl rfl (by kernel_rfl) (by kernel_rfl) (by kernel_rfl) (fun _ _ _ h => h) (by rfl) ?hh9 (by assumption) ?_
  case hh9 => (intro wq hSw; (try dsimp only at hSw); go_simp; (try (with_reducible rfl)))
  go_frame
  refine wpAnyH_takeD (some 46) (i := 10) (v := ?vh10) rfl rfl (by kernel_rfl) (by kernel_rfl) (by kernel_rfl) (fun _ _ _ h => h) (by rfl) ?hh10 (by assumption) ?_
  case hh10 => (intro wq hSw; (try dsimp only at hSw); go_simp; (try (with_reducible rfl)))
  go_frame
  refine wpAnyH_ready (rs := [11]) (by kernel_rfl) (by simp) ?_
  refine AllReadyH.cons rfl (fun K hK => ?_) AllReadyH.nil
  go_simp
  refine (HV1.out _ hbw3.drew).mono ?_; rintro en w4 ⟨rfl, hb4⟩; have hE4 := hE3.drew.below hb4 hE3.lt; have hbw4 := hbw3.trans (((Below.refl _ _).drew.trans hb4).mono hbw3.size)
  go_wp2_with fail
  refine hK.out _ _ (⟨HK.out _ hbw4, e.row_a hE4, e.row_b hE4⟩) (fun hHeld => ?_)
  clear hK K
  try go_frame
  refine wpAnyH_takeD (some 48) (i := 12) (v := ?vh12) rfl rfl (by kernel_rfl) (by kernel_rfl) (by kernel_rfl) (fun _ _ _ h => h) (by rfl) ?hh12 (by assumption) ?_
  case hh12 => (intro wq hSw; (try dsimp only at hSw); go_simp; (try (with_reducible rfl)))
  go_frame
  refine wpAnyH_takeD (some 49) (i := 13) (v := ?vh13) rfl rfl (by kernel_rfl) (by kernel_rfl) (by kernel_rfl) (fun _ _ _ h => h) (by rfl) ?hh13 (by assumption) ?_
  case hh13 => (intro wq hSw; (try dsimp only at hSw); go_simp; (try (with_reducible rfl)))
  go_frame
  refine wpAnyH_takeD (some 50) (i := 14) (v := ?vh14) rfl rfl (by kernel_rfl) (by kernel_rfl) (by kernel_rfl) (fun _ _ _ h => h) (by rfl) ?hh14 (by assumption) ?_
  case hh14 => (intro wq hSw; (try dsimp only at hSw); go_simp; (try (with_reducible rfl)))
  go_frame
  refine wpAnyH_takeD (some 51) (i := 15) (v := ?vh15) rfl rfl (by kernel_rfl) (by kernel_rfl) (by kernel_rfl) (fun _ _ _ h => h) (by rfl) ?hh15 (by assumption) ?_
  case hh15 => (intro wq hSw; (try dsimp only at hSw); go_simp; (try (with_reducible rfl)))
  go_frame
  refine wpAnyH_takeD (some 52) (i := 16) (v := ?vh16) rfl rfl (by kernel_rfl) (by kernel_rfl) (by kernel_rfl) (fun _ _ _ h => h) (by rfl) ?hh16 (by assumption) ?_
  case hh16 => (intro wq hSw; (try dsimp only at hSw); go_simp; (try (with_reducible rfl)))
  go_frame
  refine wpAnyH_takeD (some 53) (i := 17) (v := ?vh17) rfl rfl (by kernel_rfl) (by kernel_rfl) (by kernel_rfl) (fun _ _ _ h => h) (by rfl) ?hh17 (by assumption) ?_
  case hh17 => (intro wq hSw; (try dsimp only at hSw); go_simp; (try (with_reducible rfl)))
  go_frame
  refine wpAnyH_takeD (some 54) (i := 18) (v := ?vh18) rfl rfl (by kernel_rfl) (by kernel_rfl) (by kernel_rfl) (fun _ _ _ h => h) (by rfl) ?hh18 (by assumption) ?_
  case hh18 => (intro wq hSw; (try dsimp only at hSw); go_simp; (try (with_reducible rfl)))
  go_frame
  refine wpAnyH_takeD (some 55) (i := 19) (v := ?vh19) rfl rfl (by kernel_rfl) (by kernel_rfl) (by kernel_rfl) (fun _ _ _ h => h) (by rfl) ?hh19 (by assumption) ?_
  case hh19 => (intro wq hSw; (try dsimp only at hSw); go_simp; (try (with_reducible rfl)))
  go_frame
  refine wpAnyH_takeD (some 56) (i := 20) (v := ?vh20) rfl rfl (by kernel_rfl) (by kernel_rfl) (by kernel_rfl) (fun _ _ _ h => h) (by rfl) ?hh20 (by assumption) ?_
  case hh20 => (intro wq hSw; (try dsimp only at hSw); go_simp; (try (with_reducible rfl)))
  go_frame
  refine wpAnyH_ready (rs := [21]) (by kernel_rfl) (by simp) ?_
  refine AllReadyH.cons rfl (fun K hK => ?_) AllReadyH.nil
  go_simp
  refine (HV2.out _ hbw4).mono ?_; rintro en w5 ⟨rfl, hb5⟩; have hE5 := hE4.below hb5 hE4.lt; have hbw5 := hbw4.trans (hb5.mono hbw4.size)
  go_wp2_with fail
  refine hK.out _ _ (⟨HK.out _ hbw5, e.row_a hE5, e.row_b hE5⟩) (fun hHeld => ?_)
  clear hK K
  try go_frame
  refine wpAnyH_takeD (some 58) (i := 22) (v := ?vh22) rfl rfl (by kernel_rfl) (by kernel_rfl) (by kernel_rfl) (fun _ _ _ h => h) (by rfl) ?hh22 (by assumption) ?_
  case hh22 => (intro wq hSw; (try dsimp only at hSw); go_simp; (try (with_reducible rfl)))
  go_frame
  refine wpAnyH_takeD (some 59) (i := 23) (v := ?vh23) rfl rfl (by kernel_rfl) (by kernel_rfl) (by kernel_rfl) (fun _ _ _ h => h) (by rfl) ?hh23 (by assumption) ?_
  case hh23 => (intro wq hSw; (try dsimp only at hSw); go_simp; (try (with_reducible rfl)))
  go_frame
  refine wpAnyH_takeD (some 35) (i := 24) (v := ?vh24) rfl rfl (by kernel_rfl) (by kernel_rfl) (by kernel_rfl) (fun _ _ _ h => h) (by rfl) ?hh24 (by assumption) ?_
  case hh24 => (intro wq hSw; (try dsimp only at hSw); go_simp; (try (with_reducible rfl)))
  go_frame
  refine wpAnyH_done (by kernel_rfl) ?_ _
  refine NoPanic.normal ?_
  go_wp2
  go_ret
  exact ⟨rfl, hbw5⟩

theorem fault_any (K : Option Addr) (ck : Nat) (keys : List Nm) (e : Ev) (before : Int) (w : World) (hK : Rd w w.heap.size K (keys.flatMap nmc)) (hE : EvOk w w.heap.size e) (hca : SgCap e.a) (hcb : SgCap e.b) :
    Calls Tryz.prog 70 #[.slice K keys.length ck, e.val, .int .i64 before] w (IntPost w (faultF keys e.a.vote e.a.sig e.b.vote e.b.sig before)) := by
  have hconf := fun W => conf_any e.a.vote e.b.vote W hE.1.1 hE.2.1
  have hless := fun W => vless_any e.a.vote e.b.vote W
  unfold faultF
  by_cases h1 : ConfP e.a.vote e.b.vote
  · rw [decide_eq_true h1] at hconf
    cases h2 : lessV e.a.vote e.b.vote
    · rw [h2] at hless
      rw [if_neg (by simp)]
      exact fault_2 K keys.length ck e before w hconf hless
    · rw [h2] at hless
      rw [if_pos ⟨h1, rfl⟩]
      have hb := h1.2.2.1.bounds
      obtain ⟨sn, hsn⟩ := Int.eq_ofNat_of_zero_le hb.2.2.2.2.1.1
      by_cases h3 : e.a.vote.signer ≤ before
      · rw [if_pos h3]
        exact fault_3 K keys.length ck e before w sn hsn (by rw [← hsn]; exact h3) hconf hless
      · rw [if_neg h3]
        by_cases h4 : (keys.length : Int) ≤ e.a.vote.signer
        · rw [if_pos h4]
          exact fault_4 K keys.length ck e before w sn hsn (by rw [← hsn]; exact h3) (by rw [← hsn]; exact h4) hconf hless
        · rw [if_neg h4]
          have hlt : sn < keys.length := by omega
          have hx := getD_some Nm.zero hlt
          have hne : keys.flatMap nmc ≠ [] := by
            intro e0
            have := flat_length nmc 8 keys (nmc_len keys)
            rw [e0] at this
            simp at this; omega
          obtain ⟨b, o, rfl, _, _⟩ := hK.cells hne
          have hkey : ∀ W, Below w.heap.size w W → rowAt W b (o + sn * 8) 8 = some (keys.getD sn Nm.zero).cells := fun W hW => (hK.below hW).row hx
          have hv1 := fun W (hW : Below w.heap.size w W) => sver_any (keys.getD sn Nm.zero) e.a W ((hE.1.below hW).more hW.size) hca
          have hv2 := fun W (hW : Below w.heap.size w W) => sver_any (keys.getD sn Nm.zero) e.b W ((hE.2.below hW).more hW.size) hcb
          rw [show e.a.vote.signer.toNat = sn from by rw [hsn]; rfl]
          have h3' : ¬ (sn : Int) ≤ before := by rw [← hsn]; exact h3
          cases h5 : verS (keys.getD sn Nm.zero) e.a.vote e.a.sig
          · rw [h5] at hv1
            rw [if_neg (by simp)]
            exact fault_5 _ keys.length ck e before w sn hsn h3' b o rfl _ (by omega) hkey hv1 hconf hless
          · rw [h5] at hv1
            cases h6 : verS (keys.getD sn Nm.zero) e.b.vote e.b.sig
            · rw [h6] at hv2
              rw [if_neg (by simp)]
              exact fault_6 _ keys.length ck e before w sn hsn h3' b o rfl _ (by omega) hkey hv1 hv2 hconf hless
            · rw [h6] at hv2
              rw [if_pos ⟨rfl, rfl⟩]
              exact fault_7 _ keys.length ck e before w sn hsn h3' b o rfl _ (by omega) hkey hv1 hv2 hconf hless
  · rw [decide_eq_false h1] at hconf
    rw [if_neg (fun h => h1 h.1)]
    exact fault_1 K keys.length ck e before w hconf
end Go.Proofs.YthmecidpjlaonaaGreat
namespace Go.Proofs.YthmecidpjlaonaaGreat
open Go.RowKit

def voteA (l : List UInt8) : Vt × Int := decVote (l.take 23)
def voteB (l : List UInt8) : Vt × Int := decVote ((l.drop 393).take 23)
def sigA (l : List UInt8) : List UInt8 := (l.take 393).drop 23
def sigB (l : List UInt8) : List UInt8 := ((l.drop 393).take 393).drop 23
/-- The first error of the element at the head of l. -/
def elemF (keys : List Nm) (l : List UInt8) (before : Int) : Int :=
  if ¬ (voteA l).2 = 0 then (voteA l).2 else if ¬ (voteB l).2 = 0 then (voteB l).2 else faultF keys (voteA l).1 (sigA l) (voteB l).1 (sigB l) before
/-- The set and the error of k elements. -/
def checkL (keys : List Nm) : Nat → List UInt8 → Int → Nat → Int × Int
  | 0, _, _, m => ((m : Int), 0)
  | k + 1, l, before, m =>
    if elemF keys l before = 0 then checkL keys k (l.drop 786) (voteA l).1.signer (m ||| 2 ^ (voteA l).1.signer.toNat) else (0, elemF keys l before)
/-- The set and the error of a proof. -/
def checkF (keys : List Nm) (p : List UInt8) : Int × Int :=
  match p with
  | [] => (0, 2)
  | n :: r => if n.toNat = 0 ∨ 10 < n.toNat then (0, 4) else if r.length < n.toNat * 786 then (0, 2) else if n.toNat * 786 < r.length then (0, 3) else checkL keys n.toNat r (-1) 0
theorem decVote_ok (l : List UInt8) : (decVote l).1.ok := by
  unfold decVote
  split
  · exact ⟨by decide, by decide⟩
  · split
    · exact ⟨by decide, by decide⟩
    · split
      · exact decV_ok l
      · exact ⟨by decide, by decide⟩
theorem faultF_zero {keys : List Nm} {a b : Vt} {s t : List UInt8} {before : Int} (h : faultF keys a s b t before = 0) :
    ConfP a b ∧ lessV a b = true ∧ before < a.signer ∧ a.signer < (keys.length : Int) ∧ verS (keys.getD a.signer.toNat Nm.zero) a s = true ∧ verS (keys.getD a.signer.toNat Nm.zero) b t = true := by
  unfold faultF at h
  by_cases h1 : ConfP a b ∧ lessV a b = true
  · rw [if_pos h1] at h
    by_cases h2 : a.signer ≤ before
    · rw [if_pos h2] at h; exact absurd h (by decide)
    · rw [if_neg h2] at h
      by_cases h3 : (keys.length : Int) ≤ a.signer
      · rw [if_pos h3] at h; exact absurd h (by decide)
      · rw [if_neg h3] at h
        by_cases h4 : verS (keys.getD a.signer.toNat Nm.zero) a s = true ∧ verS (keys.getD a.signer.toNat Nm.zero) b t = true
        · exact ⟨h1.1, h1.2, by omega, by omega, h4.1, h4.2⟩
        · rw [if_neg h4] at h; exact absurd h (by decide)
  · rw [if_neg h1] at h; exact absurd h (by decide)
theorem voteA_take (l : List UInt8) : voteA (l.take 786) = voteA l := by
  unfold voteA; rw [List.take_take]; rfl
theorem voteB_take (l : List UInt8) : voteB (l.take 786) = voteB l := by
  unfold voteB; rw [List.drop_take, List.take_take]; rfl
theorem sigA_take (l : List UInt8) : sigA (l.take 786) = sigA l := by
  unfold sigA; rw [List.take_take]; rfl
theorem sigB_take (l : List UInt8) : sigB (l.take 786) = sigB l := by
  have e : (l.take 786).drop 393 = (l.drop 393).take 393 := by rw [List.drop_take]
  unfold sigB; rw [e, List.take_take]; rfl
theorem sigA_len (l : List UInt8) (h : 786 ≤ l.length) : (sigA l).length = 370 := by unfold sigA; simp; omega
theorem sigB_len (l : List UInt8) (h : 786 ≤ l.length) : (sigB l).length = 370 := by unfold sigB; simp; omega
theorem take23 (l : List UInt8) : ((l.take 393).take 23) = l.take 23 := by rw [List.take_take]; rfl
theorem takeB23 (l : List UInt8) : ((l.drop 393).take 393).take 23 = (l.drop 393).take 23 := by rw [List.take_take]; rfl
/-- The halves of an element. -/
theorem Rd.halves {w : World} {B' b o : Nat} {l : List UInt8} (h : Rd w B' (some ⟨b, o, none⟩) (l.map B)) : Rd w B' (some ⟨b, o, none⟩) ((l.take 393).map B) ∧ Rd w B' (some ⟨b, o + 393, none⟩) (((l.drop 393).take 393).map B) := by
  refine ⟨by rw [List.map_take]; exact h.take 393, ?_⟩
  rcases h with h | ⟨b', o', e, hb, hc⟩
  · rw [List.map_eq_nil_iff] at h; subst h; exact .inl (by simp)
  · injection e with e
    injection e with e1 e2
    subst e1; subst e2
    refine Rd.mk hb fun j u hu => ?_
    rw [Nat.add_assoc]
    refine hc _ u ?_
    rw [List.map_take, List.getElem?_take] at hu
    split at hu
    · rw [← hu, List.map_drop, List.getElem?_drop]
    · cases hu

theorem edec_ok_any (A : Option Addr) (c : Nat) (l : List UInt8) (w : World) (hr : Rd w w.heap.size A (l.map B)) (hl : l.length = 786) (hc : 786 ≤ c) (hm : c ≤ maxLen) (h1 : (voteA l).2 = 0) (h2 : (voteB l).2 = 0) :
    Calls Tryz.prog 50 #[.slice A 786 c] w (EDecOk w (voteA l).1 (sigA l) (voteB l).1 (sigB l)) := by
  obtain ⟨b, o, rfl, _, _⟩ := hr.cells (by intro e; rw [List.map_eq_nil_iff] at e; subst e; simp at hl)
  refine edec_ok b o c _ _ _ _ w hc hm (fun W hW => ?_) (fun W hW => ?_)
  · have h := sdec_ok (some ⟨b, o, none⟩) c (l.take 393) W (((hr.below hW).more hW.size).halves.1) (by simp; omega) (by omega) hm (by rw [take23]; exact h1)
    rw [take23] at h; exact h
  · have h := sdec_ok (some ⟨b, o + 393, none⟩) (c - 393) ((l.drop 393).take 393) W (((hr.below hW).more hW.size).halves.2) (by simp; omega) (by omega) (by unfold maxLen at *; omega) (by rw [takeB23]; exact h2)
    rw [takeB23] at h; exact h

theorem edec_err_any (A : Option Addr) (c : Nat) (l : List UInt8) (w : World) (hr : Rd w w.heap.size A (l.map B)) (hl : l.length = 786) (hc : 786 ≤ c) (hm : c ≤ maxLen) (n : Int) (h : (¬ (voteA l).2 = 0 ∧ (voteA l).2 = n) ∨ ((voteA l).2 = 0 ∧ ¬ (voteB l).2 = 0 ∧ (voteB l).2 = n)) :
    Calls Tryz.prog 50 #[.slice A 786 c] w (EDecErr w n) := by
  obtain ⟨b, o, rfl, _, _⟩ := hr.cells (by intro e; rw [List.map_eq_nil_iff] at e; subst e; simp at hl)
  rcases h with ⟨h1, rfl⟩ | ⟨h1, h2, rfl⟩
  · refine edec_bad1 b o c _ (by simpa using h1) w hc hm (fun W hW => ?_)
    have h := sdec_err (some ⟨b, o, none⟩) c (l.take 393) W (((hr.below hW).more hW.size).halves.1) (by simp; omega) (by omega) hm (by rw [take23]; exact h1)
    rw [take23] at h; exact h
  · refine edec_bad2 b o c (voteA l).1 (sigA l) _ (by simpa using h2) w hc hm (fun W hW => ?_) (fun W hW => ?_)
    · have h := sdec_ok (some ⟨b, o, none⟩) c (l.take 393) W (((hr.below hW).more hW.size).halves.1) (by simp; omega) (by omega) hm (by rw [take23]; exact h1)
      rw [take23] at h; exact h
    · have h := sdec_err (some ⟨b, o + 393, none⟩) (c - 393) ((l.drop 393).take 393) W (((hr.below hW).more hW.size).halves.2) (by simp; omega) (by omega) (by unfold maxLen at *; omega) (by rw [takeB23]; exact h2)
      rw [takeB23] at h; exact h
end Go.Proofs.YthmecidpjlaonaaGreat
namespace Go.Proofs.YthmecidpjlaonaaGreat
open Go.RowKit

/-- Where Check's refusals jump to: the frame holds the error in slot 9. -/
def CheckJ (R : Ending → World → Prop) (a : Act) (w : World) : Prop :=
  ∃ why : Int, R (.returned (.tuple #[.int .i64 0, .int .i64 why])) w ∧ ∃ u0 u1 u2 u3 u4 u5 u6 u7 u8 u10 u11 u12 u13 u14 u15 u16 u17 u18 u19 u20 u21 u22 u23 u24 u25 u26 u27 u28 u29 u30 u31 u32 u33 u34 u35 u36 u37 u38 u39 u40 u41 u42 u43 u44 u45 u46 u47 u48 u49 u50 u51 u52 u53 u54 u55 u56 u57 u58 u59 u60 u61 u62 u63 u64 u65 u66 u67 u68 u69 u70 : Value, a = { tmps := #[u0, u1, u2, u3, u4, u5, u6, u7, u8, .int .i64 why, u10, u11, u12, u13, u14, u15, u16, u17, u18, u19, u20, u21, u22, u23, u24, u25, u26, u27, u28, u29, u30, u31, u32, u33, u34, u35, u36, u37, u38, u39, u40, u41, u42, u43, u44, u45, u46, u47, u48, u49, u50, u51, u52, u53, u54, u55, u56, u57, u58, u59, u60, u61, u62, u63, u64, u65, u66, u67, u68, u69, u70], defers := [] }
end Go.Proofs.YthmecidpjlaonaaGreat
namespace Go.Proofs.YthmecidpjlaonaaGreat
open Go.RowKit
attribute [local go_sem ↓] Go.wp_at_zero Go.wp_at_succ loadNm loadVt loadSg loadEv
attribute [local go_sem] runNm runVt runSg runEv pickRow_some rowAt_drew rowAt_drewN
/-- The call returns a set and an error. -/
def CheckPost (w : World) (r : Int × Int) (e : Ending) (w' : World) : Prop := e = .returned (.tuple #[.int .i64 r.1, .int .i64 r.2]) ∧ Below w.heap.size w w'
def sliceLen : Value → Nat
  | .slice _ n _ => n
  | _ => 0
/-- Where Check stands at the head of its loop. -/
def CheckRel (keys : List Nm) (w : World) (r : Int × Int) (g v bf : Value) (wr : World) : Prop :=
  ∃ (k : Nat) (l : List UInt8) (before : Int) (m : Nat) (A : Option Addr) (n c : Nat), v = .slice A n c ∧ g = .int .i64 (m : Int) ∧ bf = .int .i64 before ∧ l.length = n ∧ n = k * 786 ∧ k ≤ 10 ∧ n ≤ c ∧ c ≤ maxLen ∧ m < 1024 ∧
    Rd w w.heap.size A (l.map B) ∧ checkL keys k l before m = r ∧ Below w.heap.size w wr

theorem Rd.cut786 {w : World} {B' : Nat} {A : Option Addr} {l : List UInt8} (h : Rd w B' A (l.map B)) : Rd w B' (Option.map (fun x => { block := x.block, off := x.off + 786 }) A) ((l.drop 786).map B) := by
  rcases h with h | ⟨b, o, rfl, hb, hc⟩
  · rw [List.map_eq_nil_iff] at h; subst h; exact .inl (by simp)
  · refine .inr ⟨b, o + 786, rfl, hb, fun j u hu => ?_⟩
    rw [Nat.add_assoc]
    exact hc _ u (by rw [List.map_drop, List.getElem?_drop] at hu; exact hu)
set_option maxRecDepth 100000 in
set_option maxHeartbeats 8000000 in
theorem check_core (K A : Option Addr) (nk ck n c : Nat) (keys : List Nm) (p : List UInt8) (r : Int × Int) (w : World) (hnk : keys.length = nk) (hn : p.length = n) (hK : Rd w w.heap.size K (keys.flatMap nmc)) (hr : Rd w w.heap.size A (p.map B))
    (hc : n ≤ c) (hm : c ≤ maxLen) (hres : checkF keys p = r) : Calls Tryz.prog 41 #[.slice K nk ck, .slice A n c] w (CheckPost w r) := by
  have HNK := Lib.hid hnk; clear hnk
  have HN := Lib.hid hn; clear hn
  have HK := Lib.hid hK; clear hK
  have HR := Lib.hid hr; clear hr
  have HRes := Lib.hid hres; clear hres
  unfold maxLen at hm
  go_enter Tryz.func41, Tryz.ntmps41
  go_wp2
  refine wp_scope_jumps 0 (CheckJ (CheckPost w r)) (fun _ _ => 0) rfl ?_ ?_
  · rcases p with _ | ⟨x, rl⟩
    · obtain rfl : n = 0 := HN.out.symm
      have E : Hid (r = (0, 2)) := HRes.out.symm
      go_wp2
      go_step3
      exact ⟨rfl, 2, ⟨by rw [E.out], Below.refl _ _⟩, _, _, _, _, _, _, _, _, _, _, _, _, _, _, _, _, _, _, _, _, _, _, _, _, _, _, _, _, _, _, _, _, _, _, _, _, _, _, _, _, _, _, _, _, _, _, _, _, _, _, _, _, _, _, _, _, _, _, _, _, _, _, _, _, _, _, _, _, _, _, rfl⟩
    · have h1 : rl.length + 1 = n := HN.out
      obtain ⟨b, o, rfl, hb, hcell⟩ := HR.out.cells (by simp)
      have c0 : w.cell? ⟨b, o, none⟩ = some (B x) := hcell 0 _ rfl
      have hrl : Rd w w.heap.size (some ⟨b, o + 1, none⟩) (rl.map B) := Rd.mk hb fun j u hu => by
        rw [show o + 1 + j = o + (j + 1) from by omega]
        exact hcell _ u (by simpa using hu)
      have HRL := Lib.hid hrl
      clear hrl hcell
      have hx := x.toNat_lt
      have en : ((n : Int) == 0) = false := by rw [beq_eq_false_iff_ne]; omega
      have i1 : (1 : Int) ≤ (n : Int) := by omega
      have hres : (if x.toNat = 0 ∨ 10 < x.toNat then (0, 4) else if rl.length < x.toNat * 786 then (0, 2) else if x.toNat * 786 < rl.length then (0, 3) else checkL keys x.toNat rl (-1) 0) = r := HRes.out
      clear HRes HR HN
      by_cases g0 : x.toNat = 0
      · have e0 : ((x.toNat : Int) == 0) = true := by rw [g0]; rfl
        rw [if_pos (.inl g0)] at hres
        have E := Lib.hid hres.symm
        clear hres g0 h1
        by_cases hc1 : c = 1
        all_goals
          go_wp2
          go_step3
          exact ⟨rfl, 4, ⟨by rw [E.out], Below.refl _ _⟩, _, _, _, _, _, _, _, _, _, _, _, _, _, _, _, _, _, _, _, _, _, _, _, _, _, _, _, _, _, _, _, _, _, _, _, _, _, _, _, _, _, _, _, _, _, _, _, _, _, _, _, _, _, _, _, _, _, _, _, _, _, _, _, _, _, _, _, _, _, _, rfl⟩
      · have e0 : ((x.toNat : Int) == 0) = false := by rw [beq_eq_false_iff_ne]; omega
        by_cases g1 : 10 < x.toNat
        · have e1 : decide ((10 : Int) < (x.toNat : Int)) = true := by simp; omega
          rw [if_pos (.inr g1)] at hres
          have E := Lib.hid hres.symm
          clear hres g0 h1
          by_cases hc1 : c = 1
          all_goals
            go_wp2
            go_step3
            exact ⟨rfl, 4, ⟨by rw [E.out], Below.refl _ _⟩, _, _, _, _, _, _, _, _, _, _, _, _, _, _, _, _, _, _, _, _, _, _, _, _, _, _, _, _, _, _, _, _, _, _, _, _, _, _, _, _, _, _, _, _, _, _, _, _, _, _, _, _, _, _, _, _, _, _, _, _, _, _, _, _, _, _, _, _, _, _, rfl⟩
        · have e1 : decide ((10 : Int) < (x.toNat : Int)) = false := by simp; omega
          rw [if_neg (by omega)] at hres
          by_cases g2 : rl.length < x.toNat * 786
          · rw [if_pos g2] at hres
            have E := Lib.hid hres.symm
            have g2' : n - 1 < x.toNat * 786 := by omega
            clear hres g2 h1
            by_cases hc1 : c = 1
            all_goals
              go_wp2
              go_step3
              exact ⟨rfl, 2, ⟨by rw [E.out], Below.refl _ _⟩, _, _, _, _, _, _, _, _, _, _, _, _, _, _, _, _, _, _, _, _, _, _, _, _, _, _, _, _, _, _, _, _, _, _, _, _, _, _, _, _, _, _, _, _, _, _, _, _, _, _, _, _, _, _, _, _, _, _, _, _, _, _, _, _, _, _, _, _, _, _, rfl⟩
          · rw [if_neg g2] at hres
            have hc1 : ¬ c = 1 := by omega
            by_cases g3 : x.toNat * 786 < rl.length
            · rw [if_pos g3] at hres
              have E := Lib.hid hres.symm
              have g3' : x.toNat * 786 < n - 1 := by omega
              clear hres g2 g3 h1
              go_wp2
              go_step3
              exact ⟨rfl, 3, ⟨by rw [E.out], Below.refl _ _⟩, _, _, _, _, _, _, _, _, _, _, _, _, _, _, _, _, _, _, _, _, _, _, _, _, _, _, _, _, _, _, _, _, _, _, _, _, _, _, _, _, _, _, _, _, _, _, _, _, _, _, _, _, _, _, _, _, _, _, _, _, _, _, _, _, _, _, _, _, _, _, rfl⟩
            · rw [if_neg g3] at hres
              have g2' : x.toNat * 786 ≤ n - 1 := by omega
              have g3' : n - 1 ≤ x.toNat * 786 := by omega
              have HRes := Lib.hid hres
              have H1 := Lib.hid h1
              clear hres g2 g3 h1
              go_wp2
              go_loopw [6, 7, 8] (fun g v bf wr => CheckRel keys w r g v bf wr) (fun _ v _ _ => sliceLen v)
              case atStart => exact ⟨x.toNat, rl, -1, 0, _, _, _, rfl, rfl, rfl, by have := H1.out; omega, by omega, by omega, by omega, by unfold maxLen; omega, by omega, HRL.out, HRes.out, Below.refl _ _⟩
              case round => 
                clear en i1 hx e0 e1 g0 g1 g2' g3' hc1 hc hm c0 HRL HRes H1 hb
                obtain ⟨k, l, before, m, A, n, c, rfl, rfl, rfl, hl, hnk, hk10, hc, hm, hm10, hR, hres, hbw⟩ := hrel
                have HL := Lib.hid hl; clear hl
                have HR := Lib.hid hR; clear hR
                unfold maxLen at hm
                cases k with
                | zero =>
                  obtain rfl : n = 0 := by omega
                  have E : Hid (r = ((m : Int), 0)) := hres.symm
                  clear hres hnk
                  go_wp2
                  go_ret2
                  exact ⟨by rw [E.out]; rfl, hbw⟩
                | succ k =>
                  have hn : 786 ≤ n := by omega
                  have HNK2 := Lib.hid hnk; clear hnk
                  have i1 : (786 : Int) ≤ (n : Int) := by omega
                  have i2 : (786 : Int) ≤ (c : Int) := by omega
                  have i3 : (0 : Int) < (n : Int) := by omega
                  have HD := Lib.hid hres; clear hres
                  have hrt : Rd w w.heap.size A ((l.take 786).map B) := by rw [List.map_take]; exact HR.out.take 786
                  have hlt : (l.take 786).length = 786 := by have := HL.out; simp; omega
                  by_cases h1 : (voteA l).2 = 0 ∧ (voteB l).2 = 0
                  · have hdec := fun W (hW : Below w.heap.size w W) => edec_ok_any A c (l.take 786) W ((hrt.below hW).more hW.size) hlt (by omega) (by unfold maxLen; omega) (by rw [voteA_take]; exact h1.1) (by rw [voteB_take]; exact h1.2)
                    rw [voteA_take, voteB_take, sigA_take, sigB_take] at hdec
                    have HDec := Lib.hid hdec; clear hdec hrt hlt
                    have hsa := sigA_len l (by have := HL.out; omega)
                    have hsb := sigB_len l (by have := HL.out; omega)
                    have hoka : (voteA l).1.ok := decVote_ok _
                    have hokb : (voteB l).1.ok := decVote_ok _
                    have hel : elemF keys l before = faultF keys (voteA l).1 (sigA l) (voteB l).1 (sigB l) before := by unfold elemF; rw [if_neg (by simpa using h1.1), if_neg (by simpa using h1.2)]
                    have hck : (if faultF keys (voteA l).1 (sigA l) (voteB l).1 (sigB l) before = 0 then checkL keys k (l.drop 786) (voteA l).1.signer (m ||| 2 ^ (voteA l).1.signer.toNat) else (0, faultF keys (voteA l).1 (sigA l) (voteB l).1 (sigB l) before)) = r := by rw [← hel]; exact HD.out
                    have hfz := fun (h : faultF keys (voteA l).1 (sigA l) (voteB l).1 (sigB l) before = 0) => faultF_zero h
                    have HCk := Lib.hid hck
                    have Hfz := Lib.hid hfz
                    have HSA := Lib.hid hsa
                    have HSB := Lib.hid hsb
                    have HOA := Lib.hid hoka
                    have HOB := Lib.hid hokb
                    clear hck hfz hel HD h1 hsa hsb hoka hokb
                    generalize (voteA l).1 = va at *
                    generalize (voteB l).1 = vb at *
                    generalize sigA l = sa at *
                    generalize sigB l = sb at *
                    go_wp2_with fail
                    refine (HDec.out _ hbw).mono ?_
                    rintro en w2 ⟨A2, c2, A3, c3, rfl, hn2, hn3, hr2, hc2, hm2, hr3, hc3, hm3, hb2⟩
                    obtain ⟨E, hE⟩ : ∃ E : Ev, E = ⟨⟨va, sa, A2, c2⟩, ⟨vb, sb, A3, c3⟩⟩ := ⟨_, rfl⟩
                    have hEok : EvOk w2 w2.heap.size E := by rw [hE]; exact ⟨⟨HOA.out, hr2, by rw [HSA.out]; omega⟩, ⟨HOB.out, hr3, by rw [HSB.out]; omega⟩⟩
                    have hEca : SgCap E.a := by rw [hE]; exact ⟨hc2, hm2⟩
                    have hEcb : SgCap E.b := by rw [hE]; exact ⟨hc3, hm3⟩
                    have hfd : faultF keys E.a.vote E.a.sig E.b.vote E.b.sig before = faultF keys va sa vb sb before := by rw [hE]
                    have hsg : E.a.vote.signer = va.signer := by rw [hE]
                    rw [← hE]
                    have hbw2 := hbw.trans (hb2.mono hbw.size)
                    clear hE hn2 hn3 hr2 hc2 hm2 hr3 hc3 hm3 hb2 hbw
                    have HEok := Lib.hid hEok
                    have HEca := Lib.hid hEca
                    have HEcb := Lib.hid hEcb
                    clear hEok hEca hEcb
                    obtain ⟨f, hf⟩ : ∃ f, f = faultF keys va sa vb sb before := ⟨_, rfl⟩
                    rw [← hf] at hfd
                    rw [← hf] at HCk
                    rw [← hf] at Hfz
                    clear hf
                    have HF : Hid (∀ W, Below w2.heap.size w2 W → Calls Tryz.prog 70 #[.slice K nk ck, E.val, .int .i64 before] W (IntPost W f)) := fun W hW => by
                      have h := fault_any K ck keys E before W ((HK.out.below (hbw2.trans (hW.mono hbw2.size))).more (hbw2.trans (hW.mono hbw2.size)).size) ((HEok.out.below hW).more hW.size) HEca.out HEcb.out
                      rw [hfd, HNK.out] at h
                      exact h
                    clear hfd
                    go_wp2_with (refine wpList_store_blk rfl 51 (.tmp 11) (.tmp 48) rfl w2.heap.size E.cells rfl rfl 51 zeroEc (Blk.new w2 _ _) (by rw [Ev.size_cells]; rfl) (by rw [Ev.size_cells]; exact size_ev) (fun u hu => one_ev E hu) ?_)
                    intro w3 hV3 hg3 hs3
                    have hb23 : Below w2.heap.size w2 w3 := ((Below.refl _ _).alloc (Nat.le_refl _) _).grown hg3 (by simp) (by rintro j ⟨⟩; omega)
                    have hbw3 := hbw2.trans (hb23.mono hbw2.size)
                    have hl3 := hV3.lt
                    clear hg3 hs3
                    have x3 := hV3.row 46 (Ev.size_cells _)
                    have HF3 := Lib.hid (HF.out w3 hb23)
                    clear HF
                    by_cases hf0 : f = 0
                    · have hzz := Hfz.out hf0
                      obtain ⟨sn, hsn⟩ := Int.eq_ofNat_of_zero_le hzz.1.2.2.1.bounds.2.2.2.2.1.1
                      have hs9 : sn ≤ 9 := by have := hzz.1.2.2.1.bounds.2.2.2.2.1.2; omega
                      have hck := HCk.out
                      rw [if_pos hf0, hsn] at hck
                      have HC2 : Hid (checkL keys k (l.drop 786) (sn : Int) (m ||| 2 ^ sn) = r) := hck
                      clear hck hzz
                      subst hf0
                      rw [hsn] at hsg
                      have HSg := Lib.hid hsg
                      clear hsg hsn
                      by_cases hcc : c = 786
                      · subst hcc
                        obtain rfl : n = 786 := by omega
                        go_wp2_with fail
                        refine HF3.out.mono ?_
                        rintro en w4 ⟨rfl, hb4⟩
                        have hV4 := hV3.below hb4 hV3.lt
                        have hbw4 := hbw3.trans (hb4.mono hbw3.size)
                        have s4 : w4.cell? ⟨w2.heap.size, 4, none⟩ = some (.int .i64 (sn : Int)) := by rw [← HSg.out]; exact (hV4.cell 4).trans E.cell_signer
                        have hsh := shl_one sn hs9
                        clear x3 hV3 hbw3 hb4
                        go_wp2
                        refine ⟨⟨k, l.drop 786, sn, m ||| 2 ^ sn, _, _, _, rfl, or_pow m sn hm10 hs9, rfl, by have := HL.out; simp; omega, by have := HNK2.out; omega, by omega, by omega, by unfold maxLen; omega, or_lt10 m sn hm10 hs9, .inl (by have := HL.out; simp; omega), HC2.out, hbw4⟩, by simp [sliceLen]⟩
                      · have hlt2 : 786 < c := by omega
                        go_wp2_with fail
                        refine HF3.out.mono ?_
                        rintro en w4 ⟨rfl, hb4⟩
                        have hV4 := hV3.below hb4 hV3.lt
                        have hbw4 := hbw3.trans (hb4.mono hbw3.size)
                        have s4 : w4.cell? ⟨w2.heap.size, 4, none⟩ = some (.int .i64 (sn : Int)) := by rw [← HSg.out]; exact (hV4.cell 4).trans E.cell_signer
                        have hsh := shl_one sn hs9
                        clear x3 hV3 hbw3 hb4
                        go_wp2
                        refine ⟨⟨k, l.drop 786, sn, m ||| 2 ^ sn, _, _, _, rfl, or_pow m sn hm10 hs9, rfl, by have := HL.out; simp; omega, by have := HNK2.out; omega, by omega, by omega, by unfold maxLen; omega, or_lt10 m sn hm10 hs9, HR.out.cut786, HC2.out, hbw4⟩, by simp [sliceLen]; omega⟩
                    · have hfb : (f != 0) = true := by simpa using hf0
                      have hfe : (f == 0) = false := by simpa using hf0
                      have hck := HCk.out
                      rw [if_neg hf0] at hck
                      have E2 := Lib.hid hck.symm
                      clear hck hf0
                      by_cases hcc : c = 786
                      all_goals
                        go_wp2_with fail
                        refine HF3.out.mono ?_
                        rintro en w4 ⟨rfl, hb4⟩
                        have hbw4 := hbw3.trans (hb4.mono hbw3.size)
                        go_wp2
                        go_step3
                        exact ⟨rfl, f, ⟨by rw [E2.out], hbw4⟩, _, _, _, _, _, _, _, _, _, _, _, _, _, _, _, _, _, _, _, _, _, _, _, _, _, _, _, _, _, _, _, _, _, _, _, _, _, _, _, _, _, _, _, _, _, _, _, _, _, _, _, _, _, _, _, _, _, _, _, _, _, _, _, _, _, _, _, _, _, _, rfl⟩
                  · have hbad : ∃ n, n ≠ 0 ∧ elemF keys l before = n ∧ ((¬ (voteA l).2 = 0 ∧ (voteA l).2 = n) ∨ ((voteA l).2 = 0 ∧ ¬ (voteB l).2 = 0 ∧ (voteB l).2 = n)) := by
                      unfold elemF
                      by_cases ha : (voteA l).2 = 0
                      · have hbv : ¬ (voteB l).2 = 0 := fun hh => h1 ⟨ha, hh⟩
                        exact ⟨_, hbv, by rw [if_neg (by simpa using ha), if_pos hbv], .inr ⟨ha, hbv, rfl⟩⟩
                      · exact ⟨_, ha, by rw [if_pos ha], .inl ⟨ha, rfl⟩⟩
                    obtain ⟨f, hf0, hfe, hcs⟩ := hbad
                    have hdec := fun W (hW : Below w.heap.size w W) => edec_err_any A c (l.take 786) W ((hrt.below hW).more hW.size) hlt (by omega) (by unfold maxLen; omega) f (by rw [voteA_take, voteB_take]; exact hcs)
                    have HDec := Lib.hid hdec
                    have hck : (if elemF keys l before = 0 then checkL keys k (l.drop 786) (voteA l).1.signer (m ||| 2 ^ (voteA l).1.signer.toNat) else (0, elemF keys l before)) = r := HD.out
                    rw [hfe, if_neg hf0] at hck
                    have E2 := Lib.hid hck.symm
                    have hfb : (f != 0) = true := by simpa using hf0
                    have hfq : (f == 0) = false := by simpa using hf0
                    clear hdec hrt hlt hck hfe hcs HD h1 hf0
                    go_wp2_with fail
                    refine (HDec.out _ hbw).mono ?_
                    rintro en w2 ⟨rfl, hb2⟩
                    have hbw2 := hbw.trans (hb2.mono hbw.size)
                    clear hb2 hbw HDec
                    go_wp2_with (refine wpList_store_blk rfl 51 (.tmp 11) (.tmp 48) rfl w2.heap.size zeroEc rfl rfl 51 zeroEc (Blk.new w2 _ _) rfl size_ev (fun u hu => one_ze hu) ?_)
                    intro w3 hV3 hg3 hs3
                    have hb23 : Below w2.heap.size w2 w3 := ((Below.refl _ _).alloc (Nat.le_refl _) _).grown hg3 (by simp) (by rintro j ⟨⟩; omega)
                    have hbw3 := hbw2.trans (hb23.mono hbw2.size)
                    clear hg3 hs3 hb23 hV3
                    by_cases hcc : c = 786
                    all_goals
                      go_wp2
                      go_step3
                      exact ⟨rfl, f, ⟨by rw [E2.out], hbw3⟩, _, _, _, _, _, _, _, _, _, _, _, _, _, _, _, _, _, _, _, _, _, _, _, _, _, _, _, _, _, _, _, _, _, _, _, _, _, _, _, _, _, _, _, _, _, _, _, _, _, _, _, _, _, _, _, _, _, _, _, _, _, _, _, _, _, _, _, _, _, _, rfl⟩
  · rintro a' w' ⟨why, hR, v0, v1, v2, v3, v4, v5, v6, v7, v8, v10, v11, v12, v13, v14, v15, v16, v17, v18, v19, v20, v21, v22, v23, v24, v25, v26, v27, v28, v29, v30, v31, v32, v33, v34, v35, v36, v37, v38, v39, v40, v41, v42, v43, v44, v45, v46, v47, v48, v49, v50, v51, v52, v53, v54, v55, v56, v57, v58, v59, v60, v61, v62, v63, v64, v65, v66, v67, v68, v69, v70, rfl⟩
    go_wp2
    simp only [Exit.jump]
    go_ret2
    exact hR
end Go.Proofs.YthmecidpjlaonaaGreat
namespace Go.Proofs.YthmecidpjlaonaaGreat
open Go.RowKit
attribute [local go_sem ↓] Go.wp_at_zero Go.wp_at_succ loadNm loadVt loadSg loadEv
attribute [local go_sem] runNm runVt runSg runEv pickRow_some rowAt_drew rowAt_drewN
instance (s : Sg) : Decidable (EncOk s) := by unfold EncOk; infer_instance
theorem encB_length (v : Vt) : (encB v).length = 23 := rfl
theorem byteI_nat {n : Int} (h0 : 0 ≤ n) (h1 : n ≤ 255) : ((byteI n).toNat : Int) = n := by
  have := byteI_eq h0 h1
  injection this
theorem decV_encB (v : Vt) (h : ValidP v) : decV (encB v) = v := by
  obtain ⟨⟨a0, a1⟩, ⟨b0, b1⟩, ⟨c0, c1⟩, ⟨d0, d1⟩, ⟨e0, e1⟩, f0, f1⟩ := h.bounds
  obtain ⟨k, s, r, c, g, u, ⟨p0, p1, p2, p3, p4, p5, p6, p7⟩, ⟨q0, q1, q2, q3, q4, q5, q6, q7⟩⟩ := v
  simp only at a0 a1 b0 b1 c0 c1 d0 d1 e0 e1 f0 f1
  have h5 : (((byteAt u.toNat 1).toNat * 256 + (byteAt u.toNat 0).toNat : Nat) : Int) = u := by
    unfold byteAt
    simp only [UInt8.toNat_ofNat']
    omega
  show (⟨((byteI k).toNat : Int), ((byteI s).toNat : Int), ((byteI r).toNat : Int), ((byteI c).toNat : Int), ((byteI g).toNat : Int), (((byteAt u.toNat 1).toNat * 256 + (byteAt u.toNat 0).toNat : Nat) : Int), ⟨p0, p1, p2, p3, p4, p5, p6, p7⟩, ⟨q0, q1, q2, q3, q4, q5, q6, q7⟩⟩ : Vt) = _
  rw [h5, byteI_nat (by omega) (by omega), byteI_nat (by omega) (by omega), byteI_nat (by omega) (by omega), byteI_nat (by omega) (by omega), byteI_nat (by omega) (by omega)]
theorem decVote_encB (v : Vt) (h : ValidP v) : decVote (encB v) = (v, 0) := by
  unfold decVote
  rw [encB_length, if_neg (by omega), if_neg (by omega), decV_encB v h, if_pos h]
end Go.Proofs.YthmecidpjlaonaaGreat
namespace Go.Proofs.YthmecidpjlaonaaGreat
open Go.RowKit

end Go.Proofs.YthmecidpjlaonaaGreat
namespace Go.Proofs.YthmecidpjlaonaaGreat

theorem sencB_length {s : Sg} (h : EncOk s) : (sencB s).length = 393 := by unfold sencB; rw [List.length_append, encB_length, h.2]
theorem elem_good {keys : List Nm} {e : Ev} (h : GoodEv keys e) (rest : List UInt8) {before : Int} (hb : before < e.a.vote.signer) :
    (voteA (eencB e ++ rest)).1 = e.a.vote ∧ elemF keys (eencB e ++ rest) before = 0 ∧ (eencB e ++ rest).drop 786 = rest := by
  have la := sencB_length h.enc.1
  have lb := sencB_length h.enc.2
  have l3 : (eencB e).length = 786 := by unfold eencB; rw [List.length_append, la, lb]
  have t1 : (eencB e ++ rest).take 393 = sencB e.a := by
    unfold eencB
    rw [List.append_assoc, List.take_append_of_le_length (by omega), List.take_of_length_le (by omega)]
  have t2 : (eencB e ++ rest).drop 393 = sencB e.b ++ rest := by
    unfold eencB
    rw [List.append_assoc, ← la, List.drop_left]
  have s1 : ∀ s : Sg, (sencB s).take 23 = encB s.vote := fun s => by unfold sencB; rw [List.take_append_of_le_length (by rw [encB_length]; omega), List.take_of_length_le (by rw [encB_length]; omega)]
  have s2 : ∀ s : Sg, (sencB s).drop 23 = s.sig := fun s => by unfold sencB; rw [← encB_length s.vote, List.drop_left]
  have t3 : (eencB e ++ rest).take 23 = encB e.a.vote := by rw [← take23, t1, s1]
  have t4 : ((eencB e ++ rest).drop 393).take 393 = sencB e.b := by rw [t2, List.take_append_of_le_length (by omega), List.take_of_length_le (by omega)]
  have t5 : ((eencB e ++ rest).drop 393).take 23 = encB e.b.vote := by rw [← takeB23, t4, s1]
  have v1 : voteA (eencB e ++ rest) = (e.a.vote, 0) := by unfold voteA; rw [t3, decVote_encB _ h.enc.1.1]
  have v2 : voteB (eencB e ++ rest) = (e.b.vote, 0) := by unfold voteB; rw [t5, decVote_encB _ h.enc.2.1]
  have g1 : sigA (eencB e ++ rest) = e.a.sig := by unfold sigA; rw [t1, s2]
  have g2 : sigB (eencB e ++ rest) = e.b.sig := by unfold sigB; rw [t4, s2]
  refine ⟨by rw [v1], ?_, by rw [← l3, List.drop_left]⟩
  unfold elemF
  rw [v1, v2, g1, g2, if_neg (by simp), if_neg (by simp)]
  unfold faultF
  rw [if_pos ⟨h.conf, h.less⟩, if_neg (by simp only; omega), if_neg (by have := h.lt; simp only; omega), if_pos ⟨h.va, h.vb⟩]
theorem checkL_good {keys : List Nm} : ∀ (E : List Ev) (before : Int) (m : Nat), (∀ e ∈ E, GoodEv keys e) → (E.Pairwise fun e f => e.a.vote.signer < f.a.vote.signer) → (∀ e ∈ E, before < e.a.vote.signer) →
    checkL keys E.length (E.flatMap eencB) before m = (((m ||| maskS (E.map Ev.vs) : Nat) : Int), 0)
  | [], _, m, _, _, _ => by
    rw [List.length_nil, checkL, List.map_nil, maskS, Nat.or_zero]
  | e :: r, before, m, hg, hp, hb => by
    obtain ⟨p1, p2⟩ := List.pairwise_cons.1 hp
    obtain ⟨h1, h2, h3⟩ := elem_good (hg e (by simp)) (r.flatMap eencB) (hb e (by simp))
    rw [List.length_cons, List.flatMap_cons, checkL, if_pos h2, h1, h3, checkL_good r _ _ (fun x hx => hg x (by simp [hx])) p2 p1, List.map_cons, maskS, Nat.or_assoc]
theorem build_head {E : List Ev} (h : BuildOk E) : (UInt8.ofNat E.length).toNat = E.length := by
  have := h.2.1
  rw [UInt8.toNat_ofNat']; omega
theorem accept_found {keys : List Nm} {l : List VS} {E : List Ev} (h : E.map Ev.vs = findS (cvS keys l) 10) (hne : E ≠ []) : checkF keys (buildB E E.length) = (((gltF keys l : Nat) : Int), 0) := by
  have hb := found_build h hne
  have hl := build_len hb.2.2 (Nat.le_refl _)
  unfold buildB at hl ⊢
  rw [List.length_cons] at hl
  rw [List.take_of_length_le (Nat.le_refl _)] at hl ⊢
  have h1 : 0 < E.length := List.length_pos_iff.2 hne
  have h2 := hb.2.1
  unfold checkF
  simp only
  rw [build_head hb, if_neg (by omega), if_neg (by omega), if_neg (by omega), checkL_good E (-1) 0 (found_good h) (found_asc h) (fun e he => by have := (found_good h e he).sgn0; omega), Nat.zero_or, h]
  rfl
end Go.Proofs.YthmecidpjlaonaaGreat
