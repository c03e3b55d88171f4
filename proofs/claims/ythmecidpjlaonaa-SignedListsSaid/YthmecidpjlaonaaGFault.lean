/-
  checker.fault returns the first error of an element (faultF), and changes nothing that was there. Condition: keys and pair lie in memory below the call.
-/
import Derived.Test.YthmecidpjlaonaaGEDec
namespace Go.Proofs.Ythmecidpjlaonaa
open Go.RowKit
attribute [local go_sem ↓] Go.wp_at_zero Go.wp_at_succ loadNm loadVt loadSg loadEv
attribute [local go_sem] runNm runVt runSg runEv pickRow_some rowAt_drew rowAt_drewN

/-- The first error of an element behind one of the signer before. -/
def faultF (keys : List Nm) (a : Vt) (asig : List UInt8) (b : Vt) (bsig : List UInt8) (before : Int) : Int :=
  if ConfP a b ∧ lessV a b = true then
    if a.signer ≤ before then 10
    else if (keys.length : Int) ≤ a.signer then 8
    else if verS (keys.getD a.signer.toNat Nm.zero) a asig = true ∧ verS (keys.getD a.signer.toNat Nm.zero) b bsig = true then 0 else 8
  else 9
/-- The call returns a number, and leaves what was there. -/
def IntPost (w : World) (n : Int) (e : Ending) (w' : World) : Prop := e = .returned (.int .i64 n) ∧ Below w.heap.size w w'
theorem Ev.row_va {w : World} {g t : Nat} (e : Ev) (h : Blk w g t e.cells) : rowAt w g 0 22 = some e.a.vote.cells :=
  Blk.part h 0 e.a.vote.cells (fun j u hu => by rw [Nat.zero_add]; exact e.cell_a j u (e.a.cell_vote j u hu))
theorem Ev.row_vb {w : World} {g t : Nat} (e : Ev) (h : Blk w g t e.cells) : rowAt w g 23 22 = some e.b.vote.cells :=
  Blk.part h 23 e.b.vote.cells (fun j u hu => e.cell_b j u (e.b.cell_vote j u hu))
theorem Ev.row_a {w : World} {g t : Nat} (e : Ev) (h : Blk w g t e.cells) : rowAt w g 0 23 = some e.a.cells := by
  have := Blk.part h 0 e.a.cells (fun j u hu => by rw [Nat.zero_add]; exact e.cell_a j u hu)
  rwa [Sg.size_cells] at this
theorem Ev.row_b {w : World} {g t : Nat} (e : Ev) (h : Blk w g t e.cells) : rowAt w g 23 23 = some e.b.cells := by
  have := Blk.part h 23 e.b.cells (fun j u hu => e.cell_b j u hu)
  rwa [Sg.size_cells] at this
theorem Rd.row {w : World} {B' : Nat} {b o : Nat} {l : List Nm} {k : Nat} {x : Nm} (h : Rd w B' (some ⟨b, o, none⟩) (l.flatMap nmc)) (hk : l[k]? = some x) : rowAt w b (o + k * 8) 8 = some x.cells := by
  obtain ⟨b', o', e, _, hc⟩ := h.name hk
  injection e with e
  injection e with e1 e2
  subst e1; subst e2
  exact rowAt_of (fun j u hu => hc j u (by simpa using hu)) rfl

set_option maxRecDepth 100000 in
set_option maxHeartbeats 4000000 in
theorem fault_1 (K : Option Addr) (n ck : Nat) (e : Ev) (before : Int) (w : World) (hconf : ∀ W, Calls Try.prog 55 #[e.a.vote.val, e.b.vote.val] W (BoolPost W false)) :
    Calls Try.prog 63 #[.slice K n ck, e.val, .int .i64 before] w (IntPost w 9) := by
  have HC := Lib.hid hconf; clear hconf
  have hE : Blk (w.alloc (Obj.cells e.cells 45)) w.heap.size 45 e.cells := Blk.new w _ _
  have hbW : Below w.heap.size w (w.alloc (Obj.cells e.cells 45)) := (Below.refl _ _).alloc (Nat.le_refl _) _
  have x0 := e.row_va hE
  have y0 := e.row_vb hE
  have s0 : (w.alloc (Obj.cells e.cells 45)).cell? ⟨w.heap.size, 4, none⟩ = some (I e.a.vote.signer) := (hE.cell 4).trans e.cell_signer
  go_enter Try.func63, Try.ntmps63
  go_wp2_with ((go_at_call 55; refine (HC.out _).mono ?_; rintro en w2 ⟨rfl, hb2⟩; have hE2 := hE.below hb2 hE.lt; have x2 := e.row_va hE2; have y2 := e.row_vb hE2; have s2 : w2.cell? ⟨w.heap.size, 4, none⟩ = some (I e.a.vote.signer) := (hE2.cell 4).trans e.cell_signer; have hbw2 := hbW.trans (hb2.mono hbW.size)))
  go_ret
  exact ⟨rfl, hbw2⟩

set_option maxRecDepth 100000 in
set_option maxHeartbeats 4000000 in
theorem fault_2 (K : Option Addr) (n ck : Nat) (e : Ev) (before : Int) (w : World) (hconf : ∀ W, Calls Try.prog 55 #[e.a.vote.val, e.b.vote.val] W (BoolPost W true)) (hless : ∀ W, Calls Try.prog 37 #[e.a.vote.val, e.b.vote.val] W (BoolPost W false)) :
    Calls Try.prog 63 #[.slice K n ck, e.val, .int .i64 before] w (IntPost w 9) := by
  have HC := Lib.hid hconf; clear hconf
  have HL := Lib.hid hless; clear hless
  have hE : Blk (w.alloc (Obj.cells e.cells 45)) w.heap.size 45 e.cells := Blk.new w _ _
  have hbW : Below w.heap.size w (w.alloc (Obj.cells e.cells 45)) := (Below.refl _ _).alloc (Nat.le_refl _) _
  have x0 := e.row_va hE
  have y0 := e.row_vb hE
  have s0 : (w.alloc (Obj.cells e.cells 45)).cell? ⟨w.heap.size, 4, none⟩ = some (I e.a.vote.signer) := (hE.cell 4).trans e.cell_signer
  go_enter Try.func63, Try.ntmps63
  go_wp2_with (first | (go_at_call 55; refine (HC.out _).mono ?_; rintro en w2 ⟨rfl, hb2⟩; have hE2 := hE.below hb2 hE.lt; have x2 := e.row_va hE2; have y2 := e.row_vb hE2; have s2 : w2.cell? ⟨w.heap.size, 4, none⟩ = some (I e.a.vote.signer) := (hE2.cell 4).trans e.cell_signer; have hbw2 := hbW.trans (hb2.mono hbW.size)) | (go_at_call 37; refine (HL.out _).mono ?_; rintro en w3 ⟨rfl, hb3⟩; have hE3 := hE2.below hb3 hE2.lt; have hbw3 := hbw2.trans (hb3.mono hbw2.size)))
  go_ret
  exact ⟨rfl, hbw3⟩

set_option maxRecDepth 100000 in
set_option maxHeartbeats 4000000 in
theorem fault_3 (K : Option Addr) (n ck : Nat) (e : Ev) (before : Int) (w : World) (sn : Nat) (hsn : e.a.vote.signer = (sn : Int)) (hle : (sn : Int) ≤ before) (hconf : ∀ W, Calls Try.prog 55 #[e.a.vote.val, e.b.vote.val] W (BoolPost W true)) (hless : ∀ W, Calls Try.prog 37 #[e.a.vote.val, e.b.vote.val] W (BoolPost W true)) :
    Calls Try.prog 63 #[.slice K n ck, e.val, .int .i64 before] w (IntPost w 10) := by
  have HC := Lib.hid hconf; clear hconf
  have HL := Lib.hid hless; clear hless
  have HS := Lib.hid hsn; clear hsn
  have hE : Blk (w.alloc (Obj.cells e.cells 45)) w.heap.size 45 e.cells := Blk.new w _ _
  have hbW : Below w.heap.size w (w.alloc (Obj.cells e.cells 45)) := (Below.refl _ _).alloc (Nat.le_refl _) _
  have x0 := e.row_va hE
  have y0 := e.row_vb hE
  have s0 : (w.alloc (Obj.cells e.cells 45)).cell? ⟨w.heap.size, 4, none⟩ = some (.int .i64 (sn : Int)) := by rw [← HS.out]; exact (hE.cell 4).trans e.cell_signer
  go_enter Try.func63, Try.ntmps63
  go_wp2_with (first | (go_at_call 55; refine (HC.out _).mono ?_; rintro en w2 ⟨rfl, hb2⟩; have hE2 := hE.below hb2 hE.lt; have x2 := e.row_va hE2; have y2 := e.row_vb hE2; have s2 : w2.cell? ⟨w.heap.size, 4, none⟩ = some (I e.a.vote.signer) := (hE2.cell 4).trans e.cell_signer; have hbw2 := hbW.trans (hb2.mono hbW.size)) | (go_at_call 37; refine (HL.out _).mono ?_; rintro en w3 ⟨rfl, hb3⟩; have hE3 := hE2.below hb3 hE2.lt; have hbw3 := hbw2.trans (hb3.mono hbw2.size)))
  go_ret
  exact ⟨rfl, hbw3⟩

set_option maxRecDepth 100000 in
set_option maxHeartbeats 4000000 in
theorem fault_4 (K : Option Addr) (n ck : Nat) (e : Ev) (before : Int) (w : World) (sn : Nat) (hsn : e.a.vote.signer = (sn : Int)) (hle : ¬ (sn : Int) ≤ before) (hk : (n : Int) ≤ (sn : Int)) (hconf : ∀ W, Calls Try.prog 55 #[e.a.vote.val, e.b.vote.val] W (BoolPost W true)) (hless : ∀ W, Calls Try.prog 37 #[e.a.vote.val, e.b.vote.val] W (BoolPost W true)) :
    Calls Try.prog 63 #[.slice K n ck, e.val, .int .i64 before] w (IntPost w 8) := by
  have HC := Lib.hid hconf; clear hconf
  have HL := Lib.hid hless; clear hless
  have HS := Lib.hid hsn; clear hsn
  have hd : decide ((n : Int) ≤ (sn : Int)) = true := by simp; omega
  have hd2 : decide (n ≤ sn) = true := by simp; omega
  have hE : Blk (w.alloc (Obj.cells e.cells 45)) w.heap.size 45 e.cells := Blk.new w _ _
  have hbW : Below w.heap.size w (w.alloc (Obj.cells e.cells 45)) := (Below.refl _ _).alloc (Nat.le_refl _) _
  have x0 := e.row_va hE
  have y0 := e.row_vb hE
  have s0 : (w.alloc (Obj.cells e.cells 45)).cell? ⟨w.heap.size, 4, none⟩ = some (.int .i64 (sn : Int)) := by rw [← HS.out]; exact (hE.cell 4).trans e.cell_signer
  go_enter Try.func63, Try.ntmps63
  go_upto_region 6 with (first | (go_at_call 55; refine (HC.out _).mono ?_; rintro en w2 ⟨rfl, hb2⟩; have hE2 := hE.below hb2 hE.lt; have x2 := e.row_va hE2; have y2 := e.row_vb hE2; have s2 : w2.cell? ⟨w.heap.size, 4, none⟩ = some (I e.a.vote.signer) := (hE2.cell 4).trans e.cell_signer; have hbw2 := hbW.trans (hb2.mono hbW.size)) | (go_at_call 37; refine (HL.out _).mono ?_; rintro en w3 ⟨rfl, hb3⟩; have hE3 := hE2.below hb3 hE2.lt; have hbw3 := hbw2.trans (hb3.mono hbw2.size)))
  refine wp_region_noPanic ?_
  refine wp_region_held_drew (S := fun _ => True) (by kernel_rfl) (trivial) (fun hHeld => ?_)
  refine wpAnyH_takeD (some 36) (i := 0) (v := ?vh0) rfl rfl (by kernel_rfl) (by kernel_rfl) (by kernel_rfl) (fun _ _ _ h => h) (by rfl) ?hh0 (by assumption) ?_
  case hh0 => (intro wq hSw; (try dsimp only at hSw); go_simp; (try (with_reducible rfl)))
  go_frame
  refine wpAnyH_takeD (some 37) (i := 1) (v := ?vh1) rfl rfl (by kernel_rfl) (by kernel_rfl) (by kernel_rfl) (fun _ _ _ h => h) (by rfl) ?hh1 (by assumption) ?_
  case hh1 => (intro wq hSw; (try dsimp only at hSw); go_simp; (try (with_reducible rfl)))
  go_frame
  refine wpAnyH_takeD (some 38) (i := 2) (v := ?vh2) rfl rfl (by kernel_rfl) (by kernel_rfl) (by kernel_rfl) (fun _ _ _ h => h) (by rfl) ?hh2 (by assumption) ?_
  case hh2 => (intro wq hSw; (try dsimp only at hSw); go_simp; (try (with_reducible rfl)))
  go_frame
  refine wpAnyH_takeD (some 39) (i := 3) (v := ?vh3) rfl rfl (by kernel_rfl) (by kernel_rfl) (by kernel_rfl) (fun _ _ _ h => h) (by rfl) ?hh3 (by assumption) ?_
  case hh3 => (intro wq hSw; (try dsimp only at hSw); go_simp; (try (with_reducible rfl)))
  go_frame
  refine wpAnyH_takeD (some 40) (i := 4) (v := ?vh4) rfl rfl (by kernel_rfl) (by kernel_rfl) (by kernel_rfl) (fun _ _ _ h => h) (by rfl) ?hh4 (by assumption) ?_
  case hh4 => (intro wq hSw; (try dsimp only at hSw); go_simp; (try (with_reducible rfl)))
  go_frame
  refine wpAnyH_skipD (some 41) (i := 5) rfl rfl (by kernel_rfl) (by kernel_rfl) (by kernel_rfl) (fun _ _ _ h => h) (by rfl) (by assumption) ?_
  go_frame
  refine wpAnyH_skipD (some 42) (i := 6) rfl rfl (by kernel_rfl) (by kernel_rfl) (by kernel_rfl) (fun _ _ _ h => h) (by rfl) (by assumption) ?_
  go_frame
  refine wpAnyH_skipD (some 43) (i := 7) rfl rfl (by kernel_rfl) (by kernel_rfl) (by kernel_rfl) (fun _ _ _ h => h) (by rfl) (by assumption) ?_
  go_frame
  refine wpAnyH_skipD (some 44) (i := 8) rfl rfl (by kernel_rfl) (by kernel_rfl) (by kernel_rfl) (fun _ _ _ h => h) (by rfl) (by assumption) ?_
  go_frame
  refine wpAnyH_skipD (some 45) (i := 9) rfl rfl (by kernel_rfl) (by kernel_rfl) (by kernel_rfl) (fun _ _ _ h => h) (by rfl) (by assumption) ?_
  go_frame
  refine wpAnyH_skipD (some 46) (i := 10) rfl rfl (by kernel_rfl) (by kernel_rfl) (by kernel_rfl) (fun _ _ _ h => h) (by rfl) (by assumption) ?_
  go_frame
  refine wpAnyH_skipD (some 47) (i := 11) rfl rfl (by kernel_rfl) (by kernel_rfl) (by kernel_rfl) (fun _ _ _ h => h) (by rfl) (by assumption) ?_
  go_frame
  refine wpAnyH_skipD (some 48) (i := 12) rfl rfl (by kernel_rfl) (by kernel_rfl) (by kernel_rfl) (fun _ _ _ h => h) (by rfl) (by assumption) ?_
  go_frame
  refine wpAnyH_takeD (some 49) (i := 13) (v := ?vh13) rfl rfl (by kernel_rfl) (by kernel_rfl) (by kernel_rfl) (fun _ _ _ h => h) (by rfl) ?hh13 (by assumption) ?_
  case hh13 => (intro wq hSw; (try dsimp only at hSw); go_simp; (try (with_reducible rfl)))
  go_frame
  refine wpAnyH_takeD (some 50) (i := 14) (v := ?vh14) rfl rfl (by kernel_rfl) (by kernel_rfl) (by kernel_rfl) (fun _ _ _ h => h) (by rfl) ?hh14 (by assumption) ?_
  case hh14 => (intro wq hSw; (try dsimp only at hSw); go_simp; (try (with_reducible rfl)))
  go_frame
  refine wpAnyH_skipD (some 51) (i := 15) rfl rfl (by kernel_rfl) (by kernel_rfl) (by kernel_rfl) (fun _ _ _ h => h) (by rfl) (by assumption) ?_
  go_frame
  refine wpAnyH_skipD (some 52) (i := 16) rfl rfl (by kernel_rfl) (by kernel_rfl) (by kernel_rfl) (fun _ _ _ h => h) (by rfl) (by assumption) ?_
  go_frame
  refine wpAnyH_skipD (some 53) (i := 17) rfl rfl (by kernel_rfl) (by kernel_rfl) (by kernel_rfl) (fun _ _ _ h => h) (by rfl) (by assumption) ?_
  go_frame
  refine wpAnyH_skipD (some 54) (i := 18) rfl rfl (by kernel_rfl) (by kernel_rfl) (by kernel_rfl) (fun _ _ _ h => h) (by rfl) (by assumption) ?_
  go_frame
  refine wpAnyH_skipD (some 55) (i := 19) rfl rfl (by kernel_rfl) (by kernel_rfl) (by kernel_rfl) (fun _ _ _ h => h) (by rfl) (by assumption) ?_
  go_frame
  refine wpAnyH_skipD (some 56) (i := 20) rfl rfl (by kernel_rfl) (by kernel_rfl) (by kernel_rfl) (fun _ _ _ h => h) (by rfl) (by assumption) ?_
  go_frame
  refine wpAnyH_skipD (some 57) (i := 21) rfl rfl (by kernel_rfl) (by kernel_rfl) (by kernel_rfl) (fun _ _ _ h => h) (by rfl) (by assumption) ?_
  go_frame
  refine wpAnyH_skipD (some 58) (i := 22) rfl rfl (by kernel_rfl) (by kernel_rfl) (by kernel_rfl) (fun _ _ _ h => h) (by rfl) (by assumption) ?_
  go_frame
  refine wpAnyH_takeD (some 59) (i := 23) (v := ?vh23) rfl rfl (by kernel_rfl) (by kernel_rfl) (by kernel_rfl) (fun _ _ _ h => h) (by rfl) ?hh23 (by assumption) ?_
  case hh23 => (intro wq hSw; (try dsimp only at hSw); go_simp; (try (with_reducible rfl)))
  go_frame
  refine wpAnyH_takeD (some 35) (i := 24) (v := ?vh24) rfl rfl (by kernel_rfl) (by kernel_rfl) (by kernel_rfl) (fun _ _ _ h => h) (by rfl) ?hh24 (by assumption) ?_
  case hh24 => (intro wq hSw; (try dsimp only at hSw); go_simp; (try (with_reducible rfl)))
  go_frame
  refine wpAnyH_done (by kernel_rfl) ?_ _
  refine NoPanic.normal ?_
  go_wp2
  go_ret
  exact ⟨rfl, hbw3.drew⟩

set_option maxRecDepth 100000 in
set_option maxHeartbeats 4000000 in
theorem fault_5 (K : Option Addr) (n ck : Nat) (e : Ev) (before : Int) (w : World) (sn : Nat) (hsn : e.a.vote.signer = (sn : Int)) (hle : ¬ (sn : Int) ≤ before)  (b o : Nat) (hK : K = some ⟨b, o, none⟩) (key : Nm) (hk : (sn : Int) < (n : Int)) (hkey : ∀ W, Below w.heap.size w W → rowAt W b (o + sn * 8) 8 = some key.cells) (hv1 : ∀ W, Below w.heap.size w W → Calls Try.prog 54 #[key.val, e.a.val] W (BoolPost W false)) (hconf : ∀ W, Calls Try.prog 55 #[e.a.vote.val, e.b.vote.val] W (BoolPost W true)) (hless : ∀ W, Calls Try.prog 37 #[e.a.vote.val, e.b.vote.val] W (BoolPost W true)) :
    Calls Try.prog 63 #[.slice K n ck, e.val, .int .i64 before] w (IntPost w 8) := by
  have HC := Lib.hid hconf; clear hconf
  have HL := Lib.hid hless; clear hless
  have HS := Lib.hid hsn; clear hsn
  subst hK
  have HK := Lib.hid hkey; clear hkey
  have HV1 := Lib.hid hv1; clear hv1
  have i1 : (0 : Int) ≤ (sn : Int) := by omega
  have hd : decide ((n : Int) ≤ (sn : Int)) = false := by simp; omega
  have hd2 : decide (n ≤ sn) = false := by simp; omega
  have hE : Blk (w.alloc (Obj.cells e.cells 45)) w.heap.size 45 e.cells := Blk.new w _ _
  have hbW : Below w.heap.size w (w.alloc (Obj.cells e.cells 45)) := (Below.refl _ _).alloc (Nat.le_refl _) _
  have x0 := e.row_va hE
  have y0 := e.row_vb hE
  have s0 : (w.alloc (Obj.cells e.cells 45)).cell? ⟨w.heap.size, 4, none⟩ = some (.int .i64 (sn : Int)) := by rw [← HS.out]; exact (hE.cell 4).trans e.cell_signer
  go_enter Try.func63, Try.ntmps63
  go_upto_region 6 with (first | (go_at_call 55; refine (HC.out _).mono ?_; rintro en w2 ⟨rfl, hb2⟩; have hE2 := hE.below hb2 hE.lt; have x2 := e.row_va hE2; have y2 := e.row_vb hE2; have s2 : w2.cell? ⟨w.heap.size, 4, none⟩ = some (I e.a.vote.signer) := (hE2.cell 4).trans e.cell_signer; have hbw2 := hbW.trans (hb2.mono hbW.size)) | (go_at_call 37; refine (HL.out _).mono ?_; rintro en w3 ⟨rfl, hb3⟩; have hE3 := hE2.below hb3 hE2.lt; have hbw3 := hbw2.trans (hb3.mono hbw2.size)))
  refine wp_region_noPanic ?_
  refine wp_region_held_drew (S := fun w' => rowAt w' b (o + sn * 8) 8 = some key.cells ∧ rowAt w' w.heap.size 0 23 = some e.a.cells ∧ rowAt w' w.heap.size 23 23 = some e.b.cells) (by kernel_rfl) (⟨HK.out _ hbw3.drew, e.row_a hE3.drew, e.row_b hE3.drew⟩) (fun hHeld => ?_)
  refine wpAnyH_takeD (some 36) (i := 0) (v := ?vh0) rfl rfl (by kernel_rfl) (by kernel_rfl) (by kernel_rfl) (fun _ _ _ h => h) (by rfl) ?hh0 (by assumption) ?_
  case hh0 => (intro wq hSw; (try dsimp only at hSw); go_simp; (try (with_reducible rfl)))
  go_frame
  refine wpAnyH_takeD (some 37) (i := 1) (v := ?vh1) rfl rfl (by kernel_rfl) (by kernel_rfl) (by kernel_rfl) (fun _ _ _ h => h) (by rfl) ?hh1 (by assumption) ?_
  case hh1 => (intro wq hSw; (try dsimp only at hSw); go_simp; (try (with_reducible rfl)))
  go_frame
  refine wpAnyH_takeD (some 38) (i := 2) (v := ?vh2) rfl rfl (by kernel_rfl) (by kernel_rfl) (by kernel_rfl) (fun _ _ _ h => h) (by rfl) ?hh2 (by assumption) ?_
  case hh2 => (intro wq hSw; (try dsimp only at hSw); go_simp; (try (with_reducible rfl)))
  go_frame
  refine wpAnyH_takeD (some 39) (i := 3) (v := ?vh3) rfl rfl (by kernel_rfl) (by kernel_rfl) (by kernel_rfl) (fun _ _ _ h => h) (by rfl) ?hh3 (by assumption) ?_
  case hh3 => (intro wq hSw; (try dsimp only at hSw); go_simp; (try (with_reducible rfl)))
  go_frame
  refine wpAnyH_takeD (some 40) (i := 4) (v := ?vh4) rfl rfl (by kernel_rfl) (by kernel_rfl) (by kernel_rfl) (fun _ _ _ h => h) (by rfl) ?hh4 (by assumption) ?_
  case hh4 => (intro wq hSw; (try dsimp only at hSw); go_simp; (try (with_reducible rfl)))
  go_frame
  refine wpAnyH_takeD (some 41) (i := 5) (v := ?vh5) rfl rfl (by kernel_rfl) (by kernel_rfl) (by kernel_rfl) (fun _ _ _ h => h) (by rfl) ?hh5 (by assumption) ?_
  case hh5 => (intro wq hSw; (try dsimp only at hSw); go_simp; (try (with_reducible rfl)))
  go_frame
  refine wpAnyH_takeD (some 42) (i := 6) (v := ?vh6) rfl rfl (by kernel_rfl) (by kernel_rfl) (by kernel_rfl) (fun _ _ _ h => h) (by rfl) ?hh6 (by assumption) ?_
  case hh6 => (intro wq hSw; (try dsimp only at hSw); go_simp; (try (with_reducible rfl)))
  go_frame
  refine wpAnyH_takeD (some 43) (i := 7) (v := ?vh7) rfl rfl (by kernel_rfl) (by kernel_rfl) (by kernel_rfl) (fun _ _ _ h => h) (by rfl) ?hh7 (by assumption) ?_
  case hh7 => (intro wq hSw; (try dsimp only at hSw); go_simp; (try (with_reducible rfl)))
  go_frame
  refine wpAnyH_takeD (some 44) (i := 8) (v := ?vh8) rfl rfl (by kernel_rfl) (by kernel_rfl) (by kernel_rfl) (fun _ _ _ h => h) (by rfl) ?hh8 (by assumption) ?_
  case hh8 => (intro wq hSw; (try dsimp only at hSw); go_simp; (try (with_reducible rfl)))
  go_frame
  refine wpAnyH_takeD (some 45) (i := 9) (v := ?vh9) rfl rfl (by kernel_rfl) (by kernel_rfl) (by kernel_rfl) (fun _ _ _ h => h) (by rfl) ?hh9 (by assumption) ?_
  case hh9 => (intro wq hSw; (try dsimp only at hSw); go_simp; (try (with_reducible rfl)))
  go_frame
  refine wpAnyH_takeD (some 46) (i := 10) (v := ?vh10) rfl rfl (by kernel_rfl) (by kernel_rfl) (by kernel_rfl) (fun _ _ _ h => h) (by rfl) ?hh10 (by assumption) ?_
  case hh10 => (intro wq hSw; (try dsimp only at hSw); go_simp; (try (with_reducible rfl)))
  go_frame
  refine wpAnyH_ready (rs := [11]) (by kernel_rfl) (by simp) ?_
  refine AllReadyH.cons rfl (fun K hK => ?_) AllReadyH.nil
  go_simp
  refine (HV1.out _ hbw3.drew).mono ?_; rintro en w4 ⟨rfl, hb4⟩; have hE4 := hE3.drew.below hb4 hE3.lt; have hbw4 := hbw3.trans (((Below.refl _ _).drew.trans hb4).mono hbw3.size)
  go_wp2_with fail
  refine hK.out _ _ (⟨HK.out _ hbw4, e.row_a hE4, e.row_b hE4⟩) (fun hHeld => ?_)
  clear hK K
  try go_frame
  refine wpAnyH_takeD (some 48) (i := 12) (v := ?vh12) rfl rfl (by kernel_rfl) (by kernel_rfl) (by kernel_rfl) (fun _ _ _ h => h) (by rfl) ?hh12 (by assumption) ?_
  case hh12 => (intro wq hSw; (try dsimp only at hSw); go_simp; (try (with_reducible rfl)))
  go_frame
  refine wpAnyH_takeD (some 49) (i := 13) (v := ?vh13) rfl rfl (by kernel_rfl) (by kernel_rfl) (by kernel_rfl) (fun _ _ _ h => h) (by rfl) ?hh13 (by assumption) ?_
  case hh13 => (intro wq hSw; (try dsimp only at hSw); go_simp; (try (with_reducible rfl)))
  go_frame
  refine wpAnyH_takeD (some 50) (i := 14) (v := ?vh14) rfl rfl (by kernel_rfl) (by kernel_rfl) (by kernel_rfl) (fun _ _ _ h => h) (by rfl) ?hh14 (by assumption) ?_
  case hh14 => (intro wq hSw; (try dsimp only at hSw); go_simp; (try (with_reducible rfl)))
  go_frame
  refine wpAnyH_skipD (some 51) (i := 15) rfl rfl (by kernel_rfl) (by kernel_rfl) (by kernel_rfl) (fun _ _ _ h => h) (by rfl) (by assumption) ?_
  go_frame
  refine wpAnyH_skipD (some 52) (i := 16) rfl rfl (by kernel_rfl) (by kernel_rfl) (by kernel_rfl) (fun _ _ _ h => h) (by rfl) (by assumption) ?_
  go_frame
  refine wpAnyH_skipD (some 53) (i := 17) rfl rfl (by kernel_rfl) (by kernel_rfl) (by kernel_rfl) (fun _ _ _ h => h) (by rfl) (by assumption) ?_
  go_frame
  refine wpAnyH_skipD (some 54) (i := 18) rfl rfl (by kernel_rfl) (by kernel_rfl) (by kernel_rfl) (fun _ _ _ h => h) (by rfl) (by assumption) ?_
  go_frame
  refine wpAnyH_skipD (some 55) (i := 19) rfl rfl (by kernel_rfl) (by kernel_rfl) (by kernel_rfl) (fun _ _ _ h => h) (by rfl) (by assumption) ?_
  go_frame
  refine wpAnyH_skipD (some 56) (i := 20) rfl rfl (by kernel_rfl) (by kernel_rfl) (by kernel_rfl) (fun _ _ _ h => h) (by rfl) (by assumption) ?_
  go_frame
  refine wpAnyH_skipD (some 57) (i := 21) rfl rfl (by kernel_rfl) (by kernel_rfl) (by kernel_rfl) (fun _ _ _ h => h) (by rfl) (by assumption) ?_
  go_frame
  refine wpAnyH_skipD (some 58) (i := 22) rfl rfl (by kernel_rfl) (by kernel_rfl) (by kernel_rfl) (fun _ _ _ h => h) (by rfl) (by assumption) ?_
  go_frame
  refine wpAnyH_takeD (some 59) (i := 23) (v := ?vh23) rfl rfl (by kernel_rfl) (by kernel_rfl) (by kernel_rfl) (fun _ _ _ h => h) (by rfl) ?hh23 (by assumption) ?_
  case hh23 => (intro wq hSw; (try dsimp only at hSw); go_simp; (try (with_reducible rfl)))
  go_frame
  refine wpAnyH_takeD (some 35) (i := 24) (v := ?vh24) rfl rfl (by kernel_rfl) (by kernel_rfl) (by kernel_rfl) (fun _ _ _ h => h) (by rfl) ?hh24 (by assumption) ?_
  case hh24 => (intro wq hSw; (try dsimp only at hSw); go_simp; (try (with_reducible rfl)))
  go_frame
  refine wpAnyH_done (by kernel_rfl) ?_ _
  refine NoPanic.normal ?_
  go_wp2
  go_ret
  exact ⟨rfl, hbw4⟩

set_option maxRecDepth 100000 in
set_option maxHeartbeats 4000000 in
theorem fault_6 (K : Option Addr) (n ck : Nat) (e : Ev) (before : Int) (w : World) (sn : Nat) (hsn : e.a.vote.signer = (sn : Int)) (hle : ¬ (sn : Int) ≤ before)  (b o : Nat) (hK : K = some ⟨b, o, none⟩) (key : Nm) (hk : (sn : Int) < (n : Int)) (hkey : ∀ W, Below w.heap.size w W → rowAt W b (o + sn * 8) 8 = some key.cells) (hv1 : ∀ W, Below w.heap.size w W → Calls Try.prog 54 #[key.val, e.a.val] W (BoolPost W true)) (hv2 : ∀ W, Below w.heap.size w W → Calls Try.prog 54 #[key.val, e.b.val] W (BoolPost W false)) (hconf : ∀ W, Calls Try.prog 55 #[e.a.vote.val, e.b.vote.val] W (BoolPost W true)) (hless : ∀ W, Calls Try.prog 37 #[e.a.vote.val, e.b.vote.val] W (BoolPost W true)) :
    Calls Try.prog 63 #[.slice K n ck, e.val, .int .i64 before] w (IntPost w 8) := by
  have HC := Lib.hid hconf; clear hconf
  have HL := Lib.hid hless; clear hless
  have HS := Lib.hid hsn; clear hsn
  subst hK
  have HK := Lib.hid hkey; clear hkey
  have HV1 := Lib.hid hv1; clear hv1
  have HV2 := Lib.hid hv2; clear hv2
  have i1 : (0 : Int) ≤ (sn : Int) := by omega
  have hd : decide ((n : Int) ≤ (sn : Int)) = false := by simp; omega
  have hd2 : decide (n ≤ sn) = false := by simp; omega
  have hE : Blk (w.alloc (Obj.cells e.cells 45)) w.heap.size 45 e.cells := Blk.new w _ _
  have hbW : Below w.heap.size w (w.alloc (Obj.cells e.cells 45)) := (Below.refl _ _).alloc (Nat.le_refl _) _
  have x0 := e.row_va hE
  have y0 := e.row_vb hE
  have s0 : (w.alloc (Obj.cells e.cells 45)).cell? ⟨w.heap.size, 4, none⟩ = some (.int .i64 (sn : Int)) := by rw [← HS.out]; exact (hE.cell 4).trans e.cell_signer
  go_enter Try.func63, Try.ntmps63
  go_upto_region 6 with (first | (go_at_call 55; refine (HC.out _).mono ?_; rintro en w2 ⟨rfl, hb2⟩; have hE2 := hE.below hb2 hE.lt; have x2 := e.row_va hE2; have y2 := e.row_vb hE2; have s2 : w2.cell? ⟨w.heap.size, 4, none⟩ = some (I e.a.vote.signer) := (hE2.cell 4).trans e.cell_signer; have hbw2 := hbW.trans (hb2.mono hbW.size)) | (go_at_call 37; refine (HL.out _).mono ?_; rintro en w3 ⟨rfl, hb3⟩; have hE3 := hE2.below hb3 hE2.lt; have hbw3 := hbw2.trans (hb3.mono hbw2.size)))
  refine wp_region_noPanic ?_
  refine wp_region_held_drew (S := fun w' => rowAt w' b (o + sn * 8) 8 = some key.cells ∧ rowAt w' w.heap.size 0 23 = some e.a.cells ∧ rowAt w' w.heap.size 23 23 = some e.b.cells) (by kernel_rfl) (⟨HK.out _ hbw3.drew, e.row_a hE3.drew, e.row_b hE3.drew⟩) (fun hHeld => ?_)
  refine wpAnyH_takeD (some 36) (i := 0) (v := ?vh0) rfl rfl (by kernel_rfl) (by kernel_rfl) (by kernel_rfl) (fun _ _ _ h => h) (by rfl) ?hh0 (by assumption) ?_
  case hh0 => (intro wq hSw; (try dsimp only at hSw); go_simp; (try (with_reducible rfl)))
  go_frame
  refine wpAnyH_takeD (some 37) (i := 1) (v := ?vh1) rfl rfl (by kernel_rfl) (by kernel_rfl) (by kernel_rfl) (fun _ _ _ h => h) (by rfl) ?hh1 (by assumption) ?_
  case hh1 => (intro wq hSw; (try dsimp only at hSw); go_simp; (try (with_reducible rfl)))
  go_frame
  refine wpAnyH_takeD (some 38) (i := 2) (v := ?vh2) rfl rfl (by kernel_rfl) (by kernel_rfl) (by kernel_rfl) (fun _ _ _ h => h) (by rfl) ?hh2 (by assumption) ?_
  case hh2 => (intro wq hSw; (try dsimp only at hSw); go_simp; (try (with_reducible rfl)))
  go_frame
  refine wpAnyH_takeD (some 39) (i := 3) (v := ?vh3) rfl rfl (by kernel_rfl) (by kernel_rfl) (by kernel_rfl) (fun _ _ _ h => h) (by rfl) ?hh3 (by assumption) ?_
  case hh3 => (intro wq hSw; (try dsimp only at hSw); go_simp; (try (with_reducible rfl)))
  go_frame
  refine wpAnyH_takeD (some 40) (i := 4) (v := ?vh4) rfl rfl (by kernel_rfl) (by kernel_rfl) (by kernel_rfl) (fun _ _ _ h => h) (by rfl) ?hh4 (by assumption) ?_
  case hh4 => (intro wq hSw; (try dsimp only at hSw); go_simp; (try (with_reducible rfl)))
  go_frame
  refine wpAnyH_takeD (some 41) (i := 5) (v := ?vh5) rfl rfl (by kernel_rfl) (by kernel_rfl) (by kernel_rfl) (fun _ _ _ h => h) (by rfl) ?hh5 (by assumption) ?_
  case hh5 => (intro wq hSw; (try dsimp only at hSw); go_simp; (try (with_reducible rfl)))
  go_frame
  refine wpAnyH_takeD (some 42) (i := 6) (v := ?vh6) rfl rfl (by kernel_rfl) (by kernel_rfl) (by kernel_rfl) (fun _ _ _ h => h) (by rfl) ?hh6 (by assumption) ?_
  case hh6 => (intro wq hSw; (try dsimp only at hSw); go_simp; (try (with_reducible rfl)))
  go_frame
  refine wpAnyH_takeD (some 43) (i := 7) (v := ?vh7) rfl rfl (by kernel_rfl) (by kernel_rfl) (by kernel_rfl) (fun _ _ _ h => h) (by rfl) ?hh7 (by assumption) ?_
  case hh7 => (intro wq hSw; (try dsimp only at hSw); go_simp; (try (with_reducible rfl)))
  go_frame
  refine wpAnyH_takeD (some 44) (i := 8) (v := ?vh8) rfl rfl (by kernel_rfl) (by kernel_rfl) (by kernel_rfl) (fun _ _ _ h => h) (by rfl) ?hh8 (by assumption) ?_
  case hh8 => (intro wq hSw; (try dsimp only at hSw); go_simp; (try (with_reducible rfl)))
  go_frame
  refine wpAnyH_takeD (some 45) (i := 9) (v := ?vh9) rfl rfl (by kernel_rfl) (by kernel_rfl) (by kernel_rfl) (fun _ _ _ h => h) (by rfl) ?hh9 (by assumption) ?_
  case hh9 => (intro wq hSw; (try dsimp only at hSw); go_simp; (try (with_reducible rfl)))
  go_frame
  refine wpAnyH_takeD (some 46) (i := 10) (v := ?vh10) rfl rfl (by kernel_rfl) (by kernel_rfl) (by kernel_rfl) (fun _ _ _ h => h) (by rfl) ?hh10 (by assumption) ?_
  case hh10 => (intro wq hSw; (try dsimp only at hSw); go_simp; (try (with_reducible rfl)))
  go_frame
  refine wpAnyH_ready (rs := [11]) (by kernel_rfl) (by simp) ?_
  refine AllReadyH.cons rfl (fun K hK => ?_) AllReadyH.nil
  go_simp
  refine (HV1.out _ hbw3.drew).mono ?_; rintro en w4 ⟨rfl, hb4⟩; have hE4 := hE3.drew.below hb4 hE3.lt; have hbw4 := hbw3.trans (((Below.refl _ _).drew.trans hb4).mono hbw3.size)
  go_wp2_with fail
  refine hK.out _ _ (⟨HK.out _ hbw4, e.row_a hE4, e.row_b hE4⟩) (fun hHeld => ?_)
  clear hK K
  try go_frame
  refine wpAnyH_takeD (some 48) (i := 12) (v := ?vh12) rfl rfl (by kernel_rfl) (by kernel_rfl) (by kernel_rfl) (fun _ _ _ h => h) (by rfl) ?hh12 (by assumption) ?_
  case hh12 => (intro wq hSw; (try dsimp only at hSw); go_simp; (try (with_reducible rfl)))
  go_frame
  refine wpAnyH_takeD (some 49) (i := 13) (v := ?vh13) rfl rfl (by kernel_rfl) (by kernel_rfl) (by kernel_rfl) (fun _ _ _ h => h) (by rfl) ?hh13 (by assumption) ?_
  case hh13 => (intro wq hSw; (try dsimp only at hSw); go_simp; (try (with_reducible rfl)))
  go_frame
  refine wpAnyH_takeD (some 50) (i := 14) (v := ?vh14) rfl rfl (by kernel_rfl) (by kernel_rfl) (by kernel_rfl) (fun _ _ _ h => h) (by rfl) ?hh14 (by assumption) ?_
  case hh14 => (intro wq hSw; (try dsimp only at hSw); go_simp; (try (with_reducible rfl)))
  go_frame
  refine wpAnyH_takeD (some 51) (i := 15) (v := ?vh15) rfl rfl (by kernel_rfl) (by kernel_rfl) (by kernel_rfl) (fun _ _ _ h => h) (by rfl) ?hh15 (by assumption) ?_
  case hh15 => (intro wq hSw; (try dsimp only at hSw); go_simp; (try (with_reducible rfl)))
  go_frame
  refine wpAnyH_takeD (some 52) (i := 16) (v := ?vh16) rfl rfl (by kernel_rfl) (by kernel_rfl) (by kernel_rfl) (fun _ _ _ h => h) (by rfl) ?hh16 (by assumption) ?_
  case hh16 => (intro wq hSw; (try dsimp only at hSw); go_simp; (try (with_reducible rfl)))
  go_frame
  refine wpAnyH_takeD (some 53) (i := 17) (v := ?vh17) rfl rfl (by kernel_rfl) (by kernel_rfl) (by kernel_rfl) (fun _ _ _ h => h) (by rfl) ?hh17 (by assumption) ?_
  case hh17 => (intro wq hSw; (try dsimp only at hSw); go_simp; (try (with_reducible rfl)))
  go_frame
  refine wpAnyH_takeD (some 54) (i := 18) (v := ?vh18) rfl rfl (by kernel_rfl) (by kernel_rfl) (by kernel_rfl) (fun _ _ _ h => h) (by rfl) ?hh18 (by assumption) ?_
  case hh18 => (intro wq hSw; (try dsimp only at hSw); go_simp; (try (with_reducible rfl)))
  go_frame
  refine wpAnyH_takeD (some 55) (i := 19) (v := ?vh19) rfl rfl (by kernel_rfl) (by kernel_rfl) (by kernel_rfl) (fun _ _ _ h => h) (by rfl) ?hh19 (by assumption) ?_
  case hh19 => (intro wq hSw; (try dsimp only at hSw); go_simp; (try (with_reducible rfl)))
  go_frame
  refine wpAnyH_takeD (some 56) (i := 20) (v := ?vh20) rfl rfl (by kernel_rfl) (by kernel_rfl) (by kernel_rfl) (fun _ _ _ h => h) (by rfl) ?hh20 (by assumption) ?_
  case hh20 => (intro wq hSw; (try dsimp only at hSw); go_simp; (try (with_reducible rfl)))
  go_frame
  refine wpAnyH_ready (rs := [21]) (by kernel_rfl) (by simp) ?_
  refine AllReadyH.cons rfl (fun K hK => ?_) AllReadyH.nil
  go_simp
  refine (HV2.out _ hbw4).mono ?_; rintro en w5 ⟨rfl, hb5⟩; have hE5 := hE4.below hb5 hE4.lt; have hbw5 := hbw4.trans (hb5.mono hbw4.size)
  go_wp2_with fail
  refine hK.out _ _ (⟨HK.out _ hbw5, e.row_a hE5, e.row_b hE5⟩) (fun hHeld => ?_)
  clear hK K
  try go_frame
  refine wpAnyH_takeD (some 58) (i := 22) (v := ?vh22) rfl rfl (by kernel_rfl) (by kernel_rfl) (by kernel_rfl) (fun _ _ _ h => h) (by rfl) ?hh22 (by assumption) ?_
  case hh22 => (intro wq hSw; (try dsimp only at hSw); go_simp; (try (with_reducible rfl)))
  go_frame
  refine wpAnyH_takeD (some 59) (i := 23) (v := ?vh23) rfl rfl (by kernel_rfl) (by kernel_rfl) (by kernel_rfl) (fun _ _ _ h => h) (by rfl) ?hh23 (by assumption) ?_
  case hh23 => (intro wq hSw; (try dsimp only at hSw); go_simp; (try (with_reducible rfl)))
  go_frame
  refine wpAnyH_takeD (some 35) (i := 24) (v := ?vh24) rfl rfl (by kernel_rfl) (by kernel_rfl) (by kernel_rfl) (fun _ _ _ h => h) (by rfl) ?hh24 (by assumption) ?_
  case hh24 => (intro wq hSw; (try dsimp only at hSw); go_simp; (try (with_reducible rfl)))
  go_frame
  refine wpAnyH_done (by kernel_rfl) ?_ _
  refine NoPanic.normal ?_
  go_wp2
  go_ret
  exact ⟨rfl, hbw5⟩

set_option maxRecDepth 100000 in
set_option maxHeartbeats 4000000 in
theorem fault_7 (K : Option Addr) (n ck : Nat) (e : Ev) (before : Int) (w : World) (sn : Nat) (hsn : e.a.vote.signer = (sn : Int)) (hle : ¬ (sn : Int) ≤ before)  (b o : Nat) (hK : K = some ⟨b, o, none⟩) (key : Nm) (hk : (sn : Int) < (n : Int)) (hkey : ∀ W, Below w.heap.size w W → rowAt W b (o + sn * 8) 8 = some key.cells) (hv1 : ∀ W, Below w.heap.size w W → Calls Try.prog 54 #[key.val, e.a.val] W (BoolPost W true)) (hv2 : ∀ W, Below w.heap.size w W → Calls Try.prog 54 #[key.val, e.b.val] W (BoolPost W true)) (hconf : ∀ W, Calls Try.prog 55 #[e.a.vote.val, e.b.vote.val] W (BoolPost W true)) (hless : ∀ W, Calls Try.prog 37 #[e.a.vote.val, e.b.vote.val] W (BoolPost W true)) :
    Calls Try.prog 63 #[.slice K n ck, e.val, .int .i64 before] w (IntPost w 0) := by
  have HC := Lib.hid hconf; clear hconf
  have HL := Lib.hid hless; clear hless
  have HS := Lib.hid hsn; clear hsn
  subst hK
  have HK := Lib.hid hkey; clear hkey
  have HV1 := Lib.hid hv1; clear hv1
  have HV2 := Lib.hid hv2; clear hv2
  have i1 : (0 : Int) ≤ (sn : Int) := by omega
  have hd : decide ((n : Int) ≤ (sn : Int)) = false := by simp; omega
  have hd2 : decide (n ≤ sn) = false := by simp; omega
  have hE : Blk (w.alloc (Obj.cells e.cells 45)) w.heap.size 45 e.cells := Blk.new w _ _
  have hbW : Below w.heap.size w (w.alloc (Obj.cells e.cells 45)) := (Below.refl _ _).alloc (Nat.le_refl _) _
  have x0 := e.row_va hE
  have y0 := e.row_vb hE
  have s0 : (w.alloc (Obj.cells e.cells 45)).cell? ⟨w.heap.size, 4, none⟩ = some (.int .i64 (sn : Int)) := by rw [← HS.out]; exact (hE.cell 4).trans e.cell_signer
  go_enter Try.func63, Try.ntmps63
  go_upto_region 6 with (first | (go_at_call 55; refine (HC.out _).mono ?_; rintro en w2 ⟨rfl, hb2⟩; have hE2 := hE.below hb2 hE.lt; have x2 := e.row_va hE2; have y2 := e.row_vb hE2; have s2 : w2.cell? ⟨w.heap.size, 4, none⟩ = some (I e.a.vote.signer) := (hE2.cell 4).trans e.cell_signer; have hbw2 := hbW.trans (hb2.mono hbW.size)) | (go_at_call 37; refine (HL.out _).mono ?_; rintro en w3 ⟨rfl, hb3⟩; have hE3 := hE2.below hb3 hE2.lt; have hbw3 := hbw2.trans (hb3.mono hbw2.size)))
  refine wp_region_noPanic ?_
  refine wp_region_held_drew (S := fun w' => rowAt w' b (o + sn * 8) 8 = some key.cells ∧ rowAt w' w.heap.size 0 23 = some e.a.cells ∧ rowAt w' w.heap.size 23 23 = some e.b.cells) (by kernel_rfl) (⟨HK.out _ hbw3.drew, e.row_a hE3.drew, e.row_b hE3.drew⟩) (fun hHeld => ?_)
  refine wpAnyH_takeD (some 36) (i := 0) (v := ?vh0) rfl rfl (by kernel_rfl) (by kernel_rfl) (by kernel_rfl) (fun _ _ _ h => h) (by rfl) ?hh0 (by assumption) ?_
  case hh0 => (intro wq hSw; (try dsimp only at hSw); go_simp; (try (with_reducible rfl)))
  go_frame
  refine wpAnyH_takeD (some 37) (i := 1) (v := ?vh1) rfl rfl (by kernel_rfl) (by kernel_rfl) (by kernel_rfl) (fun _ _ _ h => h) (by rfl) ?hh1 (by assumption) ?_
  case hh1 => (intro wq hSw; (try dsimp only at hSw); go_simp; (try (with_reducible rfl)))
  go_frame
  refine wpAnyH_takeD (some 38) (i := 2) (v := ?vh2) rfl rfl (by kernel_rfl) (by kernel_rfl) (by kernel_rfl) (fun _ _ _ h => h) (by rfl) ?hh2 (by assumption) ?_
  case hh2 => (intro wq hSw; (try dsimp only at hSw); go_simp; (try (with_reducible rfl)))
  go_frame
  refine wpAnyH_takeD (some 39) (i := 3) (v := ?vh3) rfl rfl (by kernel_rfl) (by kernel_rfl) (by kernel_rfl) (fun _ _ _ h => h) (by rfl) ?hh3 (by assumption) ?_
  case hh3 => (intro wq hSw; (try dsimp only at hSw); go_simp; (try (with_reducible rfl)))
  go_frame
  refine wpAnyH_takeD (some 40) (i := 4) (v := ?vh4) rfl rfl (by kernel_rfl) (by kernel_rfl) (by kernel_rfl) (fun _ _ _ h => h) (by rfl) ?hh4 (by assumption) ?_
  case hh4 => (intro wq hSw; (try dsimp only at hSw); go_simp; (try (with_reducible rfl)))
  go_frame
  refine wpAnyH_takeD (some 41) (i := 5) (v := ?vh5) rfl rfl (by kernel_rfl) (by kernel_rfl) (by kernel_rfl) (fun _ _ _ h => h) (by rfl) ?hh5 (by assumption) ?_
  case hh5 => (intro wq hSw; (try dsimp only at hSw); go_simp; (try (with_reducible rfl)))
  go_frame
  refine wpAnyH_takeD (some 42) (i := 6) (v := ?vh6) rfl rfl (by kernel_rfl) (by kernel_rfl) (by kernel_rfl) (fun _ _ _ h => h) (by rfl) ?hh6 (by assumption) ?_
  case hh6 => (intro wq hSw; (try dsimp only at hSw); go_simp; (try (with_reducible rfl)))
  go_frame
  refine wpAnyH_takeD (some 43) (i := 7) (v := ?vh7) rfl rfl (by kernel_rfl) (by kernel_rfl) (by kernel_rfl) (fun _ _ _ h => h) (by rfl) ?hh7 (by assumption) ?_
  case hh7 => (intro wq hSw; (try dsimp only at hSw); go_simp; (try (with_reducible rfl)))
  go_frame
  refine wpAnyH_takeD (some 44) (i := 8) (v := ?vh8) rfl rfl (by kernel_rfl) (by kernel_rfl) (by kernel_rfl) (fun _ _ _ h => h) (by rfl) ?hh8 (by assumption) ?_
  case hh8 => (intro wq hSw; (try dsimp only at hSw); go_simp; (try (with_reducible rfl)))
  go_frame
  refine wpAnyH_takeD (some 45) (i := 9) (v := ?vh9) rfl rfl (by kernel_rfl) (by kernel_rfl) (by kernel_rfl) (fun _ _ _ h => h) (by rfl) ?hh9 (by assumption) ?_
  case hh9 => (intro wq hSw; (try dsimp only at hSw); go_simp; (try (with_reducible rfl)))
  go_frame
  refine wpAnyH_takeD (some 46) (i := 10) (v := ?vh10) rfl rfl (by kernel_rfl) (by kernel_rfl) (by kernel_rfl) (fun _ _ _ h => h) (by rfl) ?hh10 (by assumption) ?_
  case hh10 => (intro wq hSw; (try dsimp only at hSw); go_simp; (try (with_reducible rfl)))
  go_frame
  refine wpAnyH_ready (rs := [11]) (by kernel_rfl) (by simp) ?_
  refine AllReadyH.cons rfl (fun K hK => ?_) AllReadyH.nil
  go_simp
  refine (HV1.out _ hbw3.drew).mono ?_; rintro en w4 ⟨rfl, hb4⟩; have hE4 := hE3.drew.below hb4 hE3.lt; have hbw4 := hbw3.trans (((Below.refl _ _).drew.trans hb4).mono hbw3.size)
  go_wp2_with fail
  refine hK.out _ _ (⟨HK.out _ hbw4, e.row_a hE4, e.row_b hE4⟩) (fun hHeld => ?_)
  clear hK K
  try go_frame
  refine wpAnyH_takeD (some 48) (i := 12) (v := ?vh12) rfl rfl (by kernel_rfl) (by kernel_rfl) (by kernel_rfl) (fun _ _ _ h => h) (by rfl) ?hh12 (by assumption) ?_
  case hh12 => (intro wq hSw; (try dsimp only at hSw); go_simp; (try (with_reducible rfl)))
  go_frame
  refine wpAnyH_takeD (some 49) (i := 13) (v := ?vh13) rfl rfl (by kernel_rfl) (by kernel_rfl) (by kernel_rfl) (fun _ _ _ h => h) (by rfl) ?hh13 (by assumption) ?_
  case hh13 => (intro wq hSw; (try dsimp only at hSw); go_simp; (try (with_reducible rfl)))
  go_frame
  refine wpAnyH_takeD (some 50) (i := 14) (v := ?vh14) rfl rfl (by kernel_rfl) (by kernel_rfl) (by kernel_rfl) (fun _ _ _ h => h) (by rfl) ?hh14 (by assumption) ?_
  case hh14 => (intro wq hSw; (try dsimp only at hSw); go_simp; (try (with_reducible rfl)))
  go_frame
  refine wpAnyH_takeD (some 51) (i := 15) (v := ?vh15) rfl rfl (by kernel_rfl) (by kernel_rfl) (by kernel_rfl) (fun _ _ _ h => h) (by rfl) ?hh15 (by assumption) ?_
  case hh15 => (intro wq hSw; (try dsimp only at hSw); go_simp; (try (with_reducible rfl)))
  go_frame
  refine wpAnyH_takeD (some 52) (i := 16) (v := ?vh16) rfl rfl (by kernel_rfl) (by kernel_rfl) (by kernel_rfl) (fun _ _ _ h => h) (by rfl) ?hh16 (by assumption) ?_
  case hh16 => (intro wq hSw; (try dsimp only at hSw); go_simp; (try (with_reducible rfl)))
  go_frame
  refine wpAnyH_takeD (some 53) (i := 17) (v := ?vh17) rfl rfl (by kernel_rfl) (by kernel_rfl) (by kernel_rfl) (fun _ _ _ h => h) (by rfl) ?hh17 (by assumption) ?_
  case hh17 => (intro wq hSw; (try dsimp only at hSw); go_simp; (try (with_reducible rfl)))
  go_frame
  refine wpAnyH_takeD (some 54) (i := 18) (v := ?vh18) rfl rfl (by kernel_rfl) (by kernel_rfl) (by kernel_rfl) (fun _ _ _ h => h) (by rfl) ?hh18 (by assumption) ?_
  case hh18 => (intro wq hSw; (try dsimp only at hSw); go_simp; (try (with_reducible rfl)))
  go_frame
  refine wpAnyH_takeD (some 55) (i := 19) (v := ?vh19) rfl rfl (by kernel_rfl) (by kernel_rfl) (by kernel_rfl) (fun _ _ _ h => h) (by rfl) ?hh19 (by assumption) ?_
  case hh19 => (intro wq hSw; (try dsimp only at hSw); go_simp; (try (with_reducible rfl)))
  go_frame
  refine wpAnyH_takeD (some 56) (i := 20) (v := ?vh20) rfl rfl (by kernel_rfl) (by kernel_rfl) (by kernel_rfl) (fun _ _ _ h => h) (by rfl) ?hh20 (by assumption) ?_
  case hh20 => (intro wq hSw; (try dsimp only at hSw); go_simp; (try (with_reducible rfl)))
  go_frame
  refine wpAnyH_ready (rs := [21]) (by kernel_rfl) (by simp) ?_
  refine AllReadyH.cons rfl (fun K hK => ?_) AllReadyH.nil
  go_simp
  refine (HV2.out _ hbw4).mono ?_; rintro en w5 ⟨rfl, hb5⟩; have hE5 := hE4.below hb5 hE4.lt; have hbw5 := hbw4.trans (hb5.mono hbw4.size)
  go_wp2_with fail
  refine hK.out _ _ (⟨HK.out _ hbw5, e.row_a hE5, e.row_b hE5⟩) (fun hHeld => ?_)
  clear hK K
  try go_frame
  refine wpAnyH_takeD (some 58) (i := 22) (v := ?vh22) rfl rfl (by kernel_rfl) (by kernel_rfl) (by kernel_rfl) (fun _ _ _ h => h) (by rfl) ?hh22 (by assumption) ?_
  case hh22 => (intro wq hSw; (try dsimp only at hSw); go_simp; (try (with_reducible rfl)))
  go_frame
  refine wpAnyH_takeD (some 59) (i := 23) (v := ?vh23) rfl rfl (by kernel_rfl) (by kernel_rfl) (by kernel_rfl) (fun _ _ _ h => h) (by rfl) ?hh23 (by assumption) ?_
  case hh23 => (intro wq hSw; (try dsimp only at hSw); go_simp; (try (with_reducible rfl)))
  go_frame
  refine wpAnyH_takeD (some 35) (i := 24) (v := ?vh24) rfl rfl (by kernel_rfl) (by kernel_rfl) (by kernel_rfl) (fun _ _ _ h => h) (by rfl) ?hh24 (by assumption) ?_
  case hh24 => (intro wq hSw; (try dsimp only at hSw); go_simp; (try (with_reducible rfl)))
  go_frame
  refine wpAnyH_done (by kernel_rfl) ?_ _
  refine NoPanic.normal ?_
  go_wp2
  go_ret
  exact ⟨rfl, hbw5⟩

theorem fault_any (K : Option Addr) (ck : Nat) (keys : List Nm) (e : Ev) (before : Int) (w : World) (hK : Rd w w.heap.size K (keys.flatMap nmc)) (hE : EvOk w w.heap.size e) (hca : SgCap e.a) (hcb : SgCap e.b) :
    Calls Try.prog 63 #[.slice K keys.length ck, e.val, .int .i64 before] w (IntPost w (faultF keys e.a.vote e.a.sig e.b.vote e.b.sig before)) := by
  have hconf := fun W => conf_any e.a.vote e.b.vote W hE.1.1 hE.2.1
  have hless := fun W => vless_any e.a.vote e.b.vote W
  unfold faultF
  by_cases h1 : ConfP e.a.vote e.b.vote
  · rw [decide_eq_true h1] at hconf
    cases h2 : lessV e.a.vote e.b.vote
    · rw [h2] at hless
      rw [if_neg (by simp)]
      exact fault_2 K keys.length ck e before w hconf hless
    · rw [h2] at hless
      rw [if_pos ⟨h1, rfl⟩]
      have hb := h1.2.2.1.bounds
      obtain ⟨sn, hsn⟩ := Int.eq_ofNat_of_zero_le hb.2.2.2.2.1.1
      by_cases h3 : e.a.vote.signer ≤ before
      · rw [if_pos h3]
        exact fault_3 K keys.length ck e before w sn hsn (by rw [← hsn]; exact h3) hconf hless
      · rw [if_neg h3]
        by_cases h4 : (keys.length : Int) ≤ e.a.vote.signer
        · rw [if_pos h4]
          exact fault_4 K keys.length ck e before w sn hsn (by rw [← hsn]; exact h3) (by rw [← hsn]; exact h4) hconf hless
        · rw [if_neg h4]
          have hlt : sn < keys.length := by omega
          have hx := getD_some Nm.zero hlt
          have hne : keys.flatMap nmc ≠ [] := by
            intro e0
            have := flat_length nmc 8 keys (nmc_len keys)
            rw [e0] at this
            simp at this; omega
          obtain ⟨b, o, rfl, _, _⟩ := hK.cells hne
          have hkey : ∀ W, Below w.heap.size w W → rowAt W b (o + sn * 8) 8 = some (keys.getD sn Nm.zero).cells := fun W hW => (hK.below hW).row hx
          have hv1 := fun W (hW : Below w.heap.size w W) => sver_any (keys.getD sn Nm.zero) e.a W ((hE.1.below hW).more hW.size) hca
          have hv2 := fun W (hW : Below w.heap.size w W) => sver_any (keys.getD sn Nm.zero) e.b W ((hE.2.below hW).more hW.size) hcb
          rw [show e.a.vote.signer.toNat = sn from by rw [hsn]; rfl]
          have h3' : ¬ (sn : Int) ≤ before := by rw [← hsn]; exact h3
          cases h5 : verS (keys.getD sn Nm.zero) e.a.vote e.a.sig
          · rw [h5] at hv1
            rw [if_neg (by simp)]
            exact fault_5 _ keys.length ck e before w sn hsn h3' b o rfl _ (by omega) hkey hv1 hconf hless
          · rw [h5] at hv1
            cases h6 : verS (keys.getD sn Nm.zero) e.b.vote e.b.sig
            · rw [h6] at hv2
              rw [if_neg (by simp)]
              exact fault_6 _ keys.length ck e before w sn hsn h3' b o rfl _ (by omega) hkey hv1 hv2 hconf hless
            · rw [h6] at hv2
              rw [if_pos ⟨rfl, rfl⟩]
              exact fault_7 _ keys.length ck e before w sn hsn h3' b o rfl _ (by omega) hkey hv1 hv2 hconf hless
  · rw [decide_eq_false h1] at hconf
    rw [if_neg (fun h => h1 h.1)]
    exact fault_1 K keys.length ck e before w hconf
end Go.Proofs.Ythmecidpjlaonaa
