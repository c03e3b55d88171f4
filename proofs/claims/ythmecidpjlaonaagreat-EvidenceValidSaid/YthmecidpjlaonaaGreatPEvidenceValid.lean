/-
  The closed facts of the row of evidenceValid, one by one. No condition.
  evidence.Valid returns whether a pair shows two votes in conflict, in order, that verify. Condition: keys and pair lie in memory below the call.
  The reference's ValidEvidence returns what evidence.Valid returns. Condition: keys and pair lie in memory below the call.
  The law EvidenceValid returns true and changes nothing that was there. Condition: its arguments lie in memory below the call.
  The statement EvidenceValid holds: Valid is as documented for any pair of signed votes. No condition.
-/
import Derived.Test.YthmecidpjlaonaaGreatFactA
import Derived.Test.YthmecidpjlaonaaGreatFactB
import Derived.Test.YthmecidpjlaonaaGreatFactC
import Derived.Test.YthmecidpjlaonaaGreatFactD
import Derived.Test.YthmecidpjlaonaaGreatPairs9
import Derived.Test.YthmecidpjlaonaaGreatGOpen2
import Derived.ShutString
import Derived.ChangeOld
namespace Go.Proofs.YthmecidpjlaonaaGreat.evidenceValid
theorem j1 : (Rows.evidenceValidRow.wf (OpenSpec.ofChange Rows.evidenceValidSpec)) = true := by kernel_rfl
theorem j2 : (laidOutB Tryz.prog) = true := fact2
theorem j3 : (mapsRowed Tryz.prog) = true := fact3
theorem j4 : (Tryz.f5.params.all (Tryz.prog.readableRec ·)) = true := by kernel_rfl
theorem j5 : (namedTie Tryz.prog Rows.evidenceValidRow.named Rows.evidenceValidSpec.vars) = true := by kernel_rfl
theorem j6 : ((Rows.evidenceValidRow.stops == [])) = true := by kernel_rfl
theorem j7 : ((Tryz.prog.stops == [])) = true := by kernel_rfl
theorem j8 : ((Rows.evidenceValidRow.knobs == [])) = true := by kernel_rfl
theorem j9 : ((Tryz.prog.stopKnobs == [])) = true := by kernel_rfl
theorem j10 : ((Rows.evidenceValidRow.inPlace == Tryz.prog.inPlace 5)) = true := by kernel_rfl
theorem j11 : ((Rows.evidenceValidRow.unfollowed == Tryz.prog.unfollowed 5)) = true := by kernel_rfl
theorem j12 : ((Rows.evidenceValidRow.recurses == Tryz.prog.recurses 5)) = true := by kernel_rfl
theorem j13 : ((Rows.evidenceValidRow.named == Tryz.prog.varsNamed 5)) = true := by kernel_rfl
theorem j14 : ((Rows.evidenceValidRow.maps == (Tryz.f5.params.toList ++ Rows.evidenceValidSpec.plain.varTypes Tryz.prog).any (Tryz.prog.mapsRec ·))) = true := by kernel_rfl
theorem j15 : ((Rows.evidenceValidRow.ifaces == (Tryz.f5.params.toList ++ Rows.evidenceValidSpec.plain.varTypes Tryz.prog).any (Tryz.prog.ifacesRec ·))) = true := by kernel_rfl
theorem j16 : ((Rows.evidenceValidRow.mapsOut == Tryz.prog.mapsAmong Tryz.f5.resultTypes.toList)) = true := by kernel_rfl
theorem j17 : ((Rows.evidenceValidRow.loops == (Tryz.f5.params.toList ++ Rows.evidenceValidSpec.plain.varTypes Tryz.prog).any (Tryz.prog.loopsFrom ·))) = true := by kernel_rfl
theorem j18 : ((Rows.evidenceValidRow.wideKeys == (Tryz.f5.params.toList ++ Rows.evidenceValidSpec.plain.varTypes Tryz.prog ++ Tryz.f5.resultTypes.toList).any (Tryz.prog.wideKeysFrom ·))) = true := by kernel_rfl
theorem j19 : (Rows.evidenceValidSpec.vars.all (Tryz.prog.varReadable ·)) = true := by kernel_rfl
theorem j20 : (Tryz.f5.resultTypes.all (fun t => Tryz.prog.readableRec t && decide (t < Tryz.prog.types.size))) = true := by kernel_rfl
theorem j21 : ((Rows.evidenceValidRow.ifacesOut == Tryz.f5.resultTypes.toList.any (Tryz.prog.ifacesRec ·))) = true := by kernel_rfl
theorem j22 : ((Rows.evidenceValidRow.loopsOut == Tryz.f5.resultTypes.toList.any (Tryz.prog.loopsFrom ·))) = true := by kernel_rfl
theorem j23 : ((Rows.evidenceValidRow.plainKeys == Tryz.prog.plainKeys)) = true := by kernel_rfl
theorem j24 : (Rows.evidenceValidRow.shortTexts.isNone) = true := by kernel_rfl
theorem j25 : (Tryz.prog.stopsHeard) = true := fact25
theorem j26 : (Tryz.prog.mayEnter) = true := fact26
theorem j27 : ((Rows.evidenceValidRow.lifted == Tryz.prog.liftsFinal)) = true := fact27
theorem j28 : ((Tryz.prog.make == some Rows.evidenceValidRow.make)) = true := fact28
theorem j29 : ((Rows.evidenceValidRow.kinds == (if Rows.evidenceValidRow.domain.isEmpty then [] else Tryz.f5.params.toList.map fun t => match Tryz.prog.underlying t with | some (.int k) => some k | _ => none))) = true := by kernel_rfl
theorem j30 : ((Rows.evidenceValidRow.pinned == Rows.evidenceValidRow.pinnedBy)) = true := by kernel_rfl
theorem j31 : ((Rows.evidenceValidRow.veiled == (Tryz.f5.params.toList ++ Rows.evidenceValidSpec.plain.varTypes Tryz.prog ++ Tryz.f5.resultTypes.toList).any (Tryz.prog.veiledRec ·))) = true := by kernel_rfl
theorem j32 : (Rows.evidenceValidRow.veiledFits Tryz.prog Tryz.f5.params.toList (Tryz.f5.params.toList ++ Rows.evidenceValidSpec.plain.varTypes Tryz.prog ++ Tryz.f5.resultTypes.toList)) = true := by kernel_rfl
set_option maxRecDepth 100000 in
theorem closed : joinedFacts Tryz.prog 5 Tryz.f5 Rows.evidenceValidSpec Rows.evidenceValidRow = true := by
  unfold joinedFacts
  exact and_t (and_t (and_t (and_t (and_t (and_t (and_t (and_t (and_t (and_t (and_t (and_t (and_t (and_t (and_t (and_t (and_t (and_t (and_t (and_t (and_t (and_t (and_t (and_t (and_t (and_t (and_t (and_t (and_t (and_t (and_t (j1) j2) j3) j4) j5) j6) j7) j8) j9) j10) j11) j12) j13) j14) j15) j16) j17) j18) j19) j20) j21) j22) j23) j24) j25) j26) j27) j28) j29) j30) j31) j32
end Go.Proofs.YthmecidpjlaonaaGreat.evidenceValid
namespace Go.Proofs.YthmecidpjlaonaaGreat
open Go.RowKit
attribute [local go_sem ↓] Go.wp_at_zero Go.wp_at_succ loadNm loadVt loadSg loadEv
attribute [local go_sem] runNm runVt runSg runEv pickRow_some rowAt_drew rowAt_drewN

def validF (keys : List Nm) (e : ES) : Bool := decide (ConfP e.1.1 e.2.1) && (lessV e.1.1 e.2.1 && (verK keys e.1.1 e.1.2 && verK keys e.2.1 e.2.2))
set_option maxRecDepth 100000 in
set_option maxHeartbeats 4000000 in
theorem pvalid_any (K : Option Addr) (nk ck : Nat) (keys : List Nm) (e : Ev) (w : World) (hnk : keys.length = nk) (hK : Rd w w.heap.size K (keys.flatMap nmc)) (ha : SgOk w w.heap.size e.a ∧ SgCap e.a) (hb : SgOk w w.heap.size e.b ∧ SgCap e.b) :
    Calls Tryz.prog 23 #[.slice K nk ck, e.val] w (BoolPost w (validF keys e.vs)) := by
  obtain ⟨w1, hw1⟩ : ∃ w1, w1 = w.alloc (.cells e.cells 51) := ⟨_, rfl⟩
  have hbw : Below w.heap.size w w1 := by rw [hw1]; exact (Below.refl _ _).alloc (Nat.le_refl _) _
  have HBe : Hid (Blk w1 w.heap.size 51 e.cells) := by unfold Hid; rw [hw1]; exact Blk.new w _ _
  obtain ⟨k1, hk1⟩ : ∃ k, k = decide (ConfP e.a.vote e.b.vote) := ⟨_, rfl⟩
  obtain ⟨k2, hk2⟩ : ∃ k, k = lessV e.a.vote e.b.vote := ⟨_, rfl⟩
  obtain ⟨k3, hk3⟩ : ∃ k, k = verK keys e.a.vote e.a.sig := ⟨_, rfl⟩
  obtain ⟨k4, hk4⟩ : ∃ k, k = verK keys e.b.vote e.b.sig := ⟨_, rfl⟩
  have hres : validF keys e.vs = (k1 && (k2 && (k3 && k4))) := by rw [hk1, hk2, hk3, hk4]; rfl
  rw [hres]
  have HC : Hid (∀ V, Calls Tryz.prog 61 #[e.a.vote.val, e.b.vote.val] V (BoolPost V k1)) := fun V => by rw [hk1]; exact conf_any _ _ V ha.1.1 hb.1.1
  have HL : Hid (∀ V, Calls Tryz.prog 46 #[e.a.vote.val, e.b.vote.val] V (BoolPost V k2)) := fun V => by rw [hk2]; exact vless_any _ _ V
  have HVA : Hid (∀ V, Below w.heap.size w V → Calls Tryz.prog 42 #[.slice K nk ck, e.a.val] V (BoolPost V k3)) := fun V hV => by rw [hk3, ← hnk]; exact pverify_any K ck keys e.a V ((hK.below hV).more hV.size) ((ha.1.below hV).more hV.size) ha.2
  have HVB : Hid (∀ V, Below w.heap.size w V → Calls Tryz.prog 42 #[.slice K nk ck, e.b.val] V (BoolPost V k4)) := fun V hV => by rw [hk4, ← hnk]; exact pverify_any K ck keys e.b V ((hK.below hV).more hV.size) ((hb.1.below hV).more hV.size) hb.2
  have HRows : Hid (∀ V, Below w1.heap.size w1 V → rowAt V w.heap.size 0 22 = some e.a.vote.cells ∧ rowAt V w.heap.size 23 22 = some e.b.vote.cells ∧ rowAt V w.heap.size 0 23 = some e.a.cells ∧ rowAt V w.heap.size 23 23 = some e.b.cells) := fun V hV =>
    ⟨e.row_va (HBe.out.below hV HBe.out.lt), e.row_vb (HBe.out.below hV HBe.out.lt), e.row_a (HBe.out.below hV HBe.out.lt), e.row_b (HBe.out.below hV HBe.out.lt)⟩
  obtain ⟨r1, r2, r3, r4⟩ := HRows.out w1 (Below.refl _ _)
  clear hk1 hk2 hk3 hk4 hres hnk hK ha hb
  go_enter Tryz.func23, Tryz.ntmps23
  go_upto_region 1 with fail
  rw [← hw1]
  clear hw1 r3 r4
  cases k1 with
  | false =>
    go_wp2_with (go_at_call 61; refine (HC.out _).mono ?_; rintro en w2 ⟨rfl, hb2⟩)
    go_ret
    exact ⟨rfl, hbw.trans (hb2.mono hbw.size)⟩
  | true =>
    cases k2 with
    | false =>
      go_wp2_with (first
        | (go_at_call 61; refine (HC.out _).mono ?_; rintro en w2 ⟨rfl, hb2⟩; obtain ⟨s1, s2, _, _⟩ := HRows.out w2 hb2)
        | (go_at_call 46; refine (HL.out _).mono ?_; rintro en w3 ⟨rfl, hb3⟩))
      go_ret
      exact ⟨rfl, hbw.trans ((hb2.trans (hb3.mono hb2.size)).mono hbw.size)⟩
    | true =>
      cases k3 with
      | false =>
        go_wp2_with (first
          | (go_at_call 61; refine (HC.out _).mono ?_; rintro en w2 ⟨rfl, hb2⟩; obtain ⟨s1, s2, _, _⟩ := HRows.out w2 hb2)
          | (go_at_call 46; refine (HL.out _).mono ?_; rintro en w3 ⟨rfl, hb3⟩; have hb13 := hb2.trans (hb3.mono hb2.size); have hbw3 := hbw.trans (hb13.mono hbw.size); obtain ⟨_, _, t3, _⟩ := HRows.out w3 hb13)
          | (go_at_call 42; refine (HVA.out _ hbw3).mono ?_; rintro en w4 ⟨rfl, hb4⟩; have hbw4 := hbw3.trans (hb4.mono hbw3.size)))
        go_ret
        exact ⟨rfl, hbw4⟩
      | true =>
        go_wp2_with (first
          | (go_at_call 61; refine (HC.out _).mono ?_; rintro en w2 ⟨rfl, hb2⟩; obtain ⟨s1, s2, _, _⟩ := HRows.out w2 hb2)
          | (go_at_call 46; refine (HL.out _).mono ?_; rintro en w3 ⟨rfl, hb3⟩; have hb13 := hb2.trans (hb3.mono hb2.size); have hbw3 := hbw.trans (hb13.mono hbw.size); obtain ⟨_, _, t3, _⟩ := HRows.out w3 hb13)
          | (go_at_call 42; refine (HVA.out _ hbw3).mono ?_; rintro en w4 ⟨rfl, hb4⟩; have hbw4 := hbw3.trans (hb4.mono hbw3.size); obtain ⟨_, _, _, u4⟩ := HRows.out w4 (hb13.trans (hb4.mono hb13.size)); clear HVA)
          | (go_at_call 42; refine (HVB.out _ hbw4).mono ?_; rintro en w5 ⟨rfl, hb5⟩; have hbw5 := hbw4.trans (hb5.mono hbw4.size)))
        go_ret
        exact ⟨by simp, hbw5⟩
end Go.Proofs.YthmecidpjlaonaaGreat
namespace Go.Proofs.YthmecidpjlaonaaGreat
open Go.RowKit
attribute [local go_sem ↓] Go.wp_at_zero Go.wp_at_succ loadNm loadVt loadSg loadEv
attribute [local go_sem] runNm runVt runSg runEv pickRow_some rowAt_drew rowAt_drewN

set_option maxRecDepth 100000 in
set_option maxHeartbeats 4000000 in
theorem rvalidE_any (K : Option Addr) (nk ck : Nat) (keys : List Nm) (e : Ev) (w : World) (hnk : keys.length = nk) (hK : Rd w w.heap.size K (keys.flatMap nmc)) (ha : SgOk w w.heap.size e.a ∧ SgCap e.a) (hb : SgOk w w.heap.size e.b ∧ SgCap e.b) :
    Calls Tryz.prog 24 #[.slice K nk ck, e.val] w (BoolPost w (validF keys e.vs)) := by
  obtain ⟨w1, hw1⟩ : ∃ w1, w1 = w.alloc (.cells e.cells 51) := ⟨_, rfl⟩
  have hbw : Below w.heap.size w w1 := by rw [hw1]; exact (Below.refl _ _).alloc (Nat.le_refl _) _
  have HBe : Hid (Blk w1 w.heap.size 51 e.cells) := by unfold Hid; rw [hw1]; exact Blk.new w _ _
  obtain ⟨k1, hk1⟩ : ∃ k, k = decide (ConfP e.a.vote e.b.vote) := ⟨_, rfl⟩
  obtain ⟨k2, hk2⟩ : ∃ k, k = lessV e.a.vote e.b.vote := ⟨_, rfl⟩
  obtain ⟨k3, hk3⟩ : ∃ k, k = verK keys e.a.vote e.a.sig := ⟨_, rfl⟩
  obtain ⟨k4, hk4⟩ : ∃ k, k = verK keys e.b.vote e.b.sig := ⟨_, rfl⟩
  have hres : validF keys e.vs = (k1 && (k2 && (k3 && k4))) := by rw [hk1, hk2, hk3, hk4]; rfl
  rw [hres]
  have HC : Hid (∀ V, Calls Tryz.prog 48 #[e.a.vote.val, e.b.vote.val] V (BoolPost V k1)) := fun V => by rw [hk1]; exact rconf_any _ _ V ha.1.1 hb.1.1
  have HL : Hid (∀ V, Calls Tryz.prog 62 #[e.a.vote.val, e.b.vote.val] V (BoolPost V k2)) := fun V => by rw [hk2]; exact rvless_any _ _ V
  have HVA : Hid (∀ V, Below w.heap.size w V → Calls Tryz.prog 44 #[.slice K nk ck, e.a.val] V (BoolPost V k3)) := fun V hV => by rw [hk3, ← hnk]; exact verify_any K ck keys e.a V ((hK.below hV).more hV.size) ((ha.1.below hV).more hV.size) ha.2
  have HVB : Hid (∀ V, Below w.heap.size w V → Calls Tryz.prog 44 #[.slice K nk ck, e.b.val] V (BoolPost V k4)) := fun V hV => by rw [hk4, ← hnk]; exact verify_any K ck keys e.b V ((hK.below hV).more hV.size) ((hb.1.below hV).more hV.size) hb.2
  have HRows : Hid (∀ V, Below w1.heap.size w1 V → rowAt V w.heap.size 0 22 = some e.a.vote.cells ∧ rowAt V w.heap.size 23 22 = some e.b.vote.cells ∧ rowAt V w.heap.size 0 23 = some e.a.cells ∧ rowAt V w.heap.size 23 23 = some e.b.cells) := fun V hV =>
    ⟨e.row_va (HBe.out.below hV HBe.out.lt), e.row_vb (HBe.out.below hV HBe.out.lt), e.row_a (HBe.out.below hV HBe.out.lt), e.row_b (HBe.out.below hV HBe.out.lt)⟩
  obtain ⟨r1, r2, r3, r4⟩ := HRows.out w1 (Below.refl _ _)
  clear hk1 hk2 hk3 hk4 hres hnk hK ha hb
  go_enter Tryz.func24, Tryz.ntmps24
  go_upto_region 1 with fail
  rw [← hw1]
  clear hw1 r3 r4
  cases k1 with
  | false =>
    go_wp2_with (go_at_call 48; refine (HC.out _).mono ?_; rintro en w2 ⟨rfl, hb2⟩)
    go_ret
    exact ⟨rfl, hbw.trans (hb2.mono hbw.size)⟩
  | true =>
    cases k2 with
    | false =>
      go_wp2_with (first
        | (go_at_call 48; refine (HC.out _).mono ?_; rintro en w2 ⟨rfl, hb2⟩; obtain ⟨s1, s2, _, _⟩ := HRows.out w2 hb2)
        | (go_at_call 62; refine (HL.out _).mono ?_; rintro en w3 ⟨rfl, hb3⟩))
      go_ret
      exact ⟨rfl, hbw.trans ((hb2.trans (hb3.mono hb2.size)).mono hbw.size)⟩
    | true =>
      cases k3 with
      | false =>
        go_wp2_with (first
          | (go_at_call 48; refine (HC.out _).mono ?_; rintro en w2 ⟨rfl, hb2⟩; obtain ⟨s1, s2, _, _⟩ := HRows.out w2 hb2)
          | (go_at_call 62; refine (HL.out _).mono ?_; rintro en w3 ⟨rfl, hb3⟩; have hb13 := hb2.trans (hb3.mono hb2.size); have hbw3 := hbw.trans (hb13.mono hbw.size); obtain ⟨_, _, t3, _⟩ := HRows.out w3 hb13)
          | (go_at_call 44; refine (HVA.out _ hbw3).mono ?_; rintro en w4 ⟨rfl, hb4⟩; have hbw4 := hbw3.trans (hb4.mono hbw3.size)))
        go_ret
        exact ⟨rfl, hbw4⟩
      | true =>
        go_wp2_with (first
          | (go_at_call 48; refine (HC.out _).mono ?_; rintro en w2 ⟨rfl, hb2⟩; obtain ⟨s1, s2, _, _⟩ := HRows.out w2 hb2)
          | (go_at_call 62; refine (HL.out _).mono ?_; rintro en w3 ⟨rfl, hb3⟩; have hb13 := hb2.trans (hb3.mono hb2.size); have hbw3 := hbw.trans (hb13.mono hbw.size); obtain ⟨_, _, t3, _⟩ := HRows.out w3 hb13)
          | (go_at_call 44; refine (HVA.out _ hbw3).mono ?_; rintro en w4 ⟨rfl, hb4⟩; have hbw4 := hbw3.trans (hb4.mono hbw3.size); obtain ⟨_, _, _, u4⟩ := HRows.out w4 (hb13.trans (hb4.mono hb13.size)); clear HVA)
          | (go_at_call 44; refine (HVB.out _ hbw4).mono ?_; rintro en w5 ⟨rfl, hb5⟩; have hbw5 := hbw4.trans (hb5.mono hbw4.size)))
        go_ret
        exact ⟨by simp, hbw5⟩
end Go.Proofs.YthmecidpjlaonaaGreat
namespace Go.Proofs.YthmecidpjlaonaaGreat
open Go.RowKit
attribute [local go_sem ↓] Go.wp_at_zero Go.wp_at_succ loadNm loadVt loadSg loadEv
attribute [local go_sem] runNm runVt runSg runEv pickRow_some rowAt_drew rowAt_drewN

theorem valid_not {keys : List Nm} {a b : VS} (h : validF keys (a, b) = true) : validF keys (b, a) = false := by
  cases h2 : validF keys (b, a) with
  | false => rfl
  | true =>
    unfold validF at h h2
    simp only [Bool.and_eq_true] at h h2
    have h3 := lessV_trans h.2.1 h2.2.1
    rw [lessV_irrefl] at h3
    cases h3
/-- The two pairs of the law. -/
def TwoEv (W : World) (X Y : Array Value) (s1 s2 : Value) (wx : World) : Prop :=
  ∃ g1 g2, s1 = .pointer (some ⟨g1, 0, none⟩) ∧ s2 = .pointer (some ⟨g2, 0, none⟩) ∧ Blk wx g1 51 X ∧ Blk wx g2 51 Y ∧ Below W.heap.size W wx

set_option maxRecDepth 100000 in
set_option maxHeartbeats 8000000 in
theorem lvalid_any (K : Option Addr) (nk ck : Nat) (keys : List Nm) (a b : Sg) (w : World) (hnk : keys.length = nk) (hK : Rd w w.heap.size K (keys.flatMap nmc)) (ha : SgOk w w.heap.size a ∧ SgCap a) (hb : SgOk w w.heap.size b ∧ SgCap b) :
    Calls Tryz.prog 5 #[.slice K nk ck, a.val, b.val] w fun e w' => e = .returned (.bool true) ∧ Below w.heap.size w w' := by
  obtain ⟨W, hW⟩ : ∃ W, W = (w.alloc (.cells a.cells 34)).alloc (.cells b.cells 34) := ⟨_, rfl⟩
  have hbW : Below w.heap.size w W := by rw [hW]; exact ((Below.refl _ _).alloc (Nat.le_refl _) _).alloc (by simp) _
  have HBa : Hid (Blk W w.heap.size 34 a.cells) := by unfold Hid; rw [hW]; exact (Blk.new w _ _).alloc _
  have HBb : Hid (Blk W (w.heap.size + 1) 34 b.cells) := by
    unfold Hid; rw [hW]
    have := Blk.new (w.alloc (.cells a.cells 34)) 34 b.cells
    simpa using this
  obtain ⟨X, hX⟩ : ∃ X, X = (Ev.mk a b).cells := ⟨_, rfl⟩
  obtain ⟨Y, hY⟩ : ∃ Y, Y = (Ev.mk b a).cells := ⟨_, rfl⟩
  have HX : Hid (X.size = 46 ∧ ∀ u ∈ X.toList, u.oneCell' = true) := by rw [hX]; exact ⟨Ev.size_cells _, fun u hu => one_ev _ hu⟩
  have HY : Hid (Y.size = 46 ∧ ∀ u ∈ Y.toList, u.oneCell' = true) := by rw [hY]; exact ⟨Ev.size_cells _, fun u hu => one_ev _ hu⟩
  have HBX : Hid (∀ {o : Oper} {c : Act} (s t : Operand) (_ : o.op = .build 51 #[(0, s), (1, t)]) (_ : c.eval s = .agg a.cells) (_ : c.eval t = .agg b.cells) (V : World), (execOp c.eval o).run Tryz.prog V = .ok (.value (.agg X)) V) := fun s t h1 h2 h3 V => by rw [hX]; exact run_buildEv a b s t h1 h2 h3 V
  have HBY : Hid (∀ {o : Oper} {c : Act} (s t : Operand) (_ : o.op = .build 51 #[(0, s), (1, t)]) (_ : c.eval s = .agg b.cells) (_ : c.eval t = .agg a.cells) (V : World), (execOp c.eval o).run Tryz.prog V = .ok (.value (.agg Y)) V) := fun s t h1 h2 h3 V => by rw [hY]; exact run_buildEv b a s t h1 h2 h3 V
  obtain ⟨k1, hk1⟩ : ∃ k, k = validF keys (a.vs, b.vs) := ⟨_, rfl⟩
  obtain ⟨k2, hk2⟩ : ∃ k, k = validF keys (b.vs, a.vs) := ⟨_, rfl⟩
  have hkk : k1 = true → k2 = false := fun h => by rw [hk2]; exact valid_not (by rw [← hk1]; exact h)
  have HP1 : Hid (∀ V, Below w.heap.size w V → Calls Tryz.prog 23 #[.slice K nk ck, .agg X] V (BoolPost V k1)) := fun V hV => by rw [hk1, hX]; exact pvalid_any K nk ck keys ⟨a, b⟩ V hnk ((hK.below hV).more hV.size) ⟨(ha.1.below hV).more hV.size, ha.2⟩ ⟨(hb.1.below hV).more hV.size, hb.2⟩
  have HP2 : Hid (∀ V, Below w.heap.size w V → Calls Tryz.prog 23 #[.slice K nk ck, .agg Y] V (BoolPost V k2)) := fun V hV => by rw [hk2, hY]; exact pvalid_any K nk ck keys ⟨b, a⟩ V hnk ((hK.below hV).more hV.size) ⟨(hb.1.below hV).more hV.size, hb.2⟩ ⟨(ha.1.below hV).more hV.size, ha.2⟩
  have HR1 : Hid (∀ V, Below w.heap.size w V → Calls Tryz.prog 24 #[.slice K nk ck, .agg X] V (BoolPost V k1)) := fun V hV => by rw [hk1, hX]; exact rvalidE_any K nk ck keys ⟨a, b⟩ V hnk ((hK.below hV).more hV.size) ⟨(ha.1.below hV).more hV.size, ha.2⟩ ⟨(hb.1.below hV).more hV.size, hb.2⟩
  have HR2 : Hid (∀ V, Below w.heap.size w V → Calls Tryz.prog 24 #[.slice K nk ck, .agg Y] V (BoolPost V k2)) := fun V hV => by rw [hk2, hY]; exact rvalidE_any K nk ck keys ⟨b, a⟩ V hnk ((hK.below hV).more hV.size) ⟨(hb.1.below hV).more hV.size, hb.2⟩ ⟨(ha.1.below hV).more hV.size, ha.2⟩
  have HAw := Lib.hid awake9_any
  obtain ⟨p, hp⟩ : ∃ p, p = w.heap.size := ⟨_, rfl⟩
  obtain ⟨q, hq⟩ : ∃ q, q = w.heap.size + 1 := ⟨_, rfl⟩
  rw [← hp] at HBa
  rw [← hq] at HBb
  have HS : Hid (∀ V, Below W.heap.size W V → rowAt V p 0 23 = some a.cells ∧ rowAt V q 0 23 = some b.cells) := fun V hV => ⟨(HBa.out.below hV HBa.out.lt).row 23 a.size_cells, (HBb.out.below hV HBb.out.lt).row 23 b.size_cells⟩
  clear hk1 hk2 hnk hK ha hb hX hY
  go_enter Tryz.func5, Tryz.ntmps5
  go_upto_region 1 with fail
  rw [← hW, ← hq, ← hp]
  clear hW hq hp
  go_cut [7, 8] (fun s1 s2 wx => TwoEv W X Y s1 s2 wx)
  case first =>
    have hN1 : Blk ((W.drew.alloc (.cells zeroEc 51)).alloc (.cells zeroEc 51)) W.heap.size 51 zeroEc := (Blk.new W.drew _ _).alloc _
    have hN2 : Blk ((W.drew.alloc (.cells zeroEc 51)).alloc (.cells zeroEc 51)) (W.heap.size + 1) 51 zeroEc := by simpa using Blk.new (W.drew.alloc (.cells zeroEc 51)) 51 zeroEc
    have hbA1 : Below W.heap.size W (W.drew.alloc (.cells zeroEc 51)) := (Below.refl _ _).drew.alloc (Nat.le_refl _) _
    have hbA : Below W.heap.size W ((W.drew.alloc (.cells zeroEc 51)).alloc (.cells zeroEc 51)) := hbA1.alloc hbA1.size _
    refine wp_region_noPanic ?_
    refine wp_region_held_drew (S := fun w' => rowAt w' p 0 23 = some a.cells ∧ rowAt w' q 0 23 = some b.cells) (by kernel_rfl) (HS.out _ (Below.refl _ _).drew) (fun hHeld => ?_)
    refine wpAnyH_takeD (some 9) (i := 0) (v := ?vh1_0) rfl rfl (by kernel_rfl) (by kernel_rfl) (by kernel_rfl) (fun _ _ _ h => h) (by rfl) ?hh1_0 (by assumption) ?_
    case hh1_0 => (intro wq hSw; (try dsimp only at hSw); go_simp; (try (with_reducible rfl)))
    go_frame
    refine wpAnyH_takeD (some 10) (i := 1) (v := ?vh1_1) rfl rfl (by kernel_rfl) (by kernel_rfl) (by kernel_rfl) (fun _ _ _ h => h) (by rfl) ?hh1_1 (by assumption) ?_
    case hh1_1 => (intro wq hSw; (try dsimp only at hSw); go_simp; (try (with_reducible rfl)))
    go_frame
    refine wpAnyH_takeD (some 11) (i := 2) (v := (.agg X)) rfl rfl (by kernel_rfl) (by kernel_rfl) (by kernel_rfl) (fun _ _ _ h => h) (by rfl) (fun wq _ => HBX.out (.tmp 9) (.tmp 10) rfl rfl rfl _) (by assumption) ?_
    go_frame
    refine wpAnyH_takeD (some 12) (i := 3) (v := ?vh1_3) rfl rfl (by kernel_rfl) (by kernel_rfl) (by kernel_rfl) (fun _ _ _ h => h) (by rfl) ?hh1_3 (by assumption) ?_
    case hh1_3 => (intro wq hSw; (try dsimp only at hSw); go_simp; (try (with_reducible rfl)))
    go_frame
    refine wpAnyH_takeD (some 13) (i := 4) (v := ?vh1_4) rfl rfl (by kernel_rfl) (by kernel_rfl) (by kernel_rfl) (fun _ _ _ h => h) (by rfl) ?hh1_4 (by assumption) ?_
    case hh1_4 => (intro wq hSw; (try dsimp only at hSw); go_simp; (try (with_reducible rfl)))
    go_frame
    refine wpAnyH_takeD (some 14) (i := 5) (v := (.agg Y)) rfl rfl (by kernel_rfl) (by kernel_rfl) (by kernel_rfl) (fun _ _ _ h => h) (by rfl) (fun wq _ => HBY.out (.tmp 12) (.tmp 13) rfl rfl rfl _) (by assumption) ?_
    go_frame
    refine wpAnyH_ready (rs := [6, 7]) (by kernel_rfl) (by simp) ?_
    refine AllReadyH.cons rfl (fun K hK => ?_) (AllReadyH.cons rfl (fun K hK => ?_) AllReadyH.nil)
    · go_simp
      refine hK.out _ _ (HS.out _ hbA1) (fun hHeld => ?_)
      clear hK K
      try go_frame
      refine wpAnyH_ready (rs := [7]) (by kernel_rfl) (by simp) ?_
      refine AllReadyH.cons rfl (fun K hK => ?_) AllReadyH.nil
      go_simp
      refine hK.out _ _ (HS.out _ hbA) (fun hHeld => ?_)
      clear hK K
      try go_frame
      refine wpAnyH_ready (rs := [8]) (by kernel_rfl) (by simp) ?_
      refine AllReadyH.cons rfl (fun K hK => ?_) AllReadyH.nil
      rw [if_pos (by rfl)]
      refine wp_store_blk 51 (.tmp 7) (.tmp 11) (by rfl) W.heap.size X (by rfl) (by rfl) 51 zeroEc hN1 (by rw [HX.out.1]; rfl) (by rw [HX.out.1]; exact size_ev) HX.out.2 rfl ?_; intro w5 hA5 hg5 hs5; have hB5 := hN2.kept hg5 (by simp); have hb5 : Below W.heap.size W w5 := hbA.grown hg5 hbA.size (by rintro j ⟨⟩; omega)
      refine hK.out _ _ (HS.out _ hb5) (fun hHeld => ?_)
      clear hK K
      try go_frame
      refine wpAnyH_ready (rs := [9]) (by kernel_rfl) (by simp) ?_
      refine AllReadyH.cons rfl (fun K hK => ?_) AllReadyH.nil
      rw [if_pos (by rfl)]
      refine wp_store_blk 51 (.tmp 8) (.tmp 14) (by rfl) (W.heap.size + 1) Y (by rfl) (by rfl) 51 zeroEc hB5 (by rw [HY.out.1]; rfl) (by rw [HY.out.1]; exact size_ev) HY.out.2 rfl ?_; intro w6 hB6 hg6 hs6; have hA6 := hA5.kept hg6 (by simp); have hb6 : Below W.heap.size W w6 := hb5.grown hg6 hb5.size (by rintro j ⟨⟩; omega)
      refine hK.out _ _ (HS.out _ hb6) (fun hHeld => ?_)
      clear hK K
      try go_frame
      refine wpAnyH_done (by kernel_rfl) ?_ _
      refine NoPanic.normal ?_
      go_wp2_with fail
      go_meet
      exact ⟨_, _, rfl, rfl, hA6, hB6, hb6⟩
    · go_simp
      refine hK.out _ _ (HS.out _ hbA1) (fun hHeld => ?_)
      clear hK K
      try go_frame
      refine wpAnyH_ready (rs := [6]) (by kernel_rfl) (by simp) ?_
      refine AllReadyH.cons rfl (fun K hK => ?_) AllReadyH.nil
      go_simp
      refine hK.out _ _ (HS.out _ hbA) (fun hHeld => ?_)
      clear hK K
      try go_frame
      refine wpAnyH_ready (rs := [8]) (by kernel_rfl) (by simp) ?_
      refine AllReadyH.cons rfl (fun K hK => ?_) AllReadyH.nil
      rw [if_pos (by rfl)]
      refine wp_store_blk 51 (.tmp 7) (.tmp 11) (by rfl) (W.heap.size + 1) X (by rfl) (by rfl) 51 zeroEc hN2 (by rw [HX.out.1]; rfl) (by rw [HX.out.1]; exact size_ev) HX.out.2 rfl ?_; intro w5 hA5 hg5 hs5; have hB5 := hN1.kept hg5 (by simp); have hb5 : Below W.heap.size W w5 := hbA.grown hg5 hbA.size (by rintro j ⟨⟩; omega)
      refine hK.out _ _ (HS.out _ hb5) (fun hHeld => ?_)
      clear hK K
      try go_frame
      refine wpAnyH_ready (rs := [9]) (by kernel_rfl) (by simp) ?_
      refine AllReadyH.cons rfl (fun K hK => ?_) AllReadyH.nil
      rw [if_pos (by rfl)]
      refine wp_store_blk 51 (.tmp 8) (.tmp 14) (by rfl) W.heap.size Y (by rfl) (by rfl) 51 zeroEc hB5 (by rw [HY.out.1]; rfl) (by rw [HY.out.1]; exact size_ev) HY.out.2 rfl ?_; intro w6 hB6 hg6 hs6; have hA6 := hA5.kept hg6 (by simp); have hb6 : Below W.heap.size W w6 := hb5.grown hg6 hb5.size (by rintro j ⟨⟩; omega)
      refine hK.out _ _ (HS.out _ hb6) (fun hHeld => ?_)
      clear hK K
      try go_frame
      refine wpAnyH_done (by kernel_rfl) ?_ _
      refine NoPanic.normal ?_
      go_wp2_with fail
      go_meet
      exact ⟨_, _, rfl, rfl, hA6, hB6, hb6⟩
  case rest =>
    obtain ⟨g1, g2, rfl, rfl, hG1, hG2, hbX⟩ := hcut
    have hbx := hbW.trans (hbX.mono hbW.size)
    have HE : Hid (∀ V, Below wc.heap.size wc V → rowAt V g1 0 46 = some X ∧ rowAt V g2 0 46 = some Y) := fun V hV => ⟨(hG1.below hV hG1.lt).row 46 HX.out.1, (hG2.below hV hG2.lt).row 46 HY.out.1⟩
    clear HS HBa HBb hbW hbX hG1 hG2
    have hb0 : Below wc.heap.size wc wc := Below.refl _ _
    try go_frame
    go_upto_region 2 with fail
    cases k1 with
    | true =>
      have hk2 := hkk rfl
      subst hk2
      clear hkk
      refine wp_region_noPanic ?_
      refine wp_region_held_drew (S := fun w' => rowAt w' g1 0 46 = some X ∧ rowAt w' g2 0 46 = some Y) (by kernel_rfl) (HE.out _ hb0.drew) (fun hHeld => ?_)
      refine wpAnyH_takeD (some 15) (i := 0) (v := ?vh4_0) rfl rfl (by kernel_rfl) (by kernel_rfl) (by kernel_rfl) (fun _ _ _ h => h) (by rfl) ?hh4_0 (by assumption) ?_
      case hh4_0 => (intro wq hSw; (try dsimp only at hSw); go_simp; (try (with_reducible rfl)))
      go_frame
      refine wpAnyH_takeD (some 16) (i := 1) (v := ?vh4_1) rfl rfl (by kernel_rfl) (by kernel_rfl) (by kernel_rfl) (fun _ _ _ h => h) (by rfl) ?hh4_1 (by assumption) ?_
      case hh4_1 => (intro wq hSw; (try dsimp only at hSw); go_simp; (try (with_reducible rfl)))
      go_frame
      refine wpAnyH_takeD (some 18) (i := 3) (v := ?vh4_3) rfl rfl (by kernel_rfl) (by kernel_rfl) (by kernel_rfl) (fun _ _ _ h => h) (by rfl) ?hh4_3 (by assumption) ?_
      case hh4_3 => (intro wq hSw; (try dsimp only at hSw); go_simp; (try (with_reducible rfl)))
      go_frame
      refine wpAnyH_takeD (some 19) (i := 4) (v := ?vh4_4) rfl rfl (by kernel_rfl) (by kernel_rfl) (by kernel_rfl) (fun _ _ _ h => h) (by rfl) ?hh4_4 (by assumption) ?_
      case hh4_4 => (intro wq hSw; (try dsimp only at hSw); go_simp; (try (with_reducible rfl)))
      go_frame
      refine wpAnyH_ready (rs := [2]) (by kernel_rfl) (by simp) ?_
      refine AllReadyH.cons rfl (fun K hK => ?_) AllReadyH.nil
      go_simp
      refine (HP1.out _ (hbx.trans ((hb0.drew).mono hbx.size))).mono ?_; rintro en v0 ⟨rfl, hd0⟩; have hc0 := (hb0.drew).trans (hd0.mono (hb0.drew).size); clear hd0
      go_wp2_with fail
      refine hK.out _ _ (HE.out _ hc0) (fun hHeld => ?_)
      clear hK K
      try go_frame
      refine wpAnyH_ready (rs := [5]) (by kernel_rfl) (by simp) ?_
      refine AllReadyH.cons rfl (fun K hK => ?_) AllReadyH.nil
      go_simp
      refine (HR1.out _ (hbx.trans ((hc0).mono hbx.size))).mono ?_; rintro en v1 ⟨rfl, hd1⟩; have hc1 := (hc0).trans (hd1.mono (hc0).size); clear hd1
      go_wp2_with fail
      refine hK.out _ _ (HE.out _ hc1) (fun hHeld => ?_)
      clear hK K
      try go_frame
      refine wpAnyH_takeD (some 21) (i := 6) (v := ?vh4_6) rfl rfl (by kernel_rfl) (by kernel_rfl) (by kernel_rfl) (fun _ _ _ h => h) (by rfl) ?hh4_6 (by assumption) ?_
      case hh4_6 => (intro wq hSw; (try dsimp only at hSw); go_simp; (try (with_reducible rfl)))
      go_frame
      refine wpAnyH_takeD (some 22) (i := 7) (v := ?vh4_7) rfl rfl (by kernel_rfl) (by kernel_rfl) (by kernel_rfl) (fun _ _ _ h => h) (by rfl) ?hh4_7 (by assumption) ?_
      case hh4_7 => (intro wq hSw; (try dsimp only at hSw); go_simp; (try (with_reducible rfl)))
      go_frame
      refine wpAnyH_takeD (some 23) (i := 8) (v := ?vh4_8) rfl rfl (by kernel_rfl) (by kernel_rfl) (by kernel_rfl) (fun _ _ _ h => h) (by rfl) ?hh4_8 (by assumption) ?_
      case hh4_8 => (intro wq hSw; (try dsimp only at hSw); go_simp; (try (with_reducible rfl)))
      go_frame
      refine wpAnyH_takeD (some 24) (i := 9) (v := ?vh4_9) rfl rfl (by kernel_rfl) (by kernel_rfl) (by kernel_rfl) (fun _ _ _ h => h) (by rfl) ?hh4_9 (by assumption) ?_
      case hh4_9 => (intro wq hSw; (try dsimp only at hSw); go_simp; (try (with_reducible rfl)))
      go_frame
      refine wpAnyH_takeD (some 26) (i := 11) (v := ?vh4_11) rfl rfl (by kernel_rfl) (by kernel_rfl) (by kernel_rfl) (fun _ _ _ h => h) (by rfl) ?hh4_11 (by assumption) ?_
      case hh4_11 => (intro wq hSw; (try dsimp only at hSw); go_simp; (try (with_reducible rfl)))
      go_frame
      refine wpAnyH_takeD (some 27) (i := 12) (v := ?vh4_12) rfl rfl (by kernel_rfl) (by kernel_rfl) (by kernel_rfl) (fun _ _ _ h => h) (by rfl) ?hh4_12 (by assumption) ?_
      case hh4_12 => (intro wq hSw; (try dsimp only at hSw); go_simp; (try (with_reducible rfl)))
      go_frame
      refine wpAnyH_ready (rs := [10]) (by kernel_rfl) (by simp) ?_
      refine AllReadyH.cons rfl (fun K hK => ?_) AllReadyH.nil
      go_simp
      refine (HP2.out _ (hbx.trans ((hc1).mono hbx.size))).mono ?_; rintro en v2 ⟨rfl, hd2⟩; have hc2 := (hc1).trans (hd2.mono (hc1).size); clear hd2
      go_wp2_with fail
      refine hK.out _ _ (HE.out _ hc2) (fun hHeld => ?_)
      clear hK K
      try go_frame
      refine wpAnyH_ready (rs := [13]) (by kernel_rfl) (by simp) ?_
      refine AllReadyH.cons rfl (fun K hK => ?_) AllReadyH.nil
      go_simp
      refine (HR2.out _ (hbx.trans ((hc2).mono hbx.size))).mono ?_; rintro en v3 ⟨rfl, hd3⟩; have hc3 := (hc2).trans (hd3.mono (hc2).size); clear hd3
      go_wp2_with fail
      refine hK.out _ _ (HE.out _ hc3) (fun hHeld => ?_)
      clear hK K
      try go_frame
      refine wpAnyH_takeD (some 29) (i := 14) (v := ?vh4_14) rfl rfl (by kernel_rfl) (by kernel_rfl) (by kernel_rfl) (fun _ _ _ h => h) (by rfl) ?hh4_14 (by assumption) ?_
      case hh4_14 => (intro wq hSw; (try dsimp only at hSw); go_simp; (try (with_reducible rfl)))
      go_frame
      refine wpAnyH_takeD (some 30) (i := 15) (v := ?vh4_15) rfl rfl (by kernel_rfl) (by kernel_rfl) (by kernel_rfl) (fun _ _ _ h => h) (by rfl) ?hh4_15 (by assumption) ?_
      case hh4_15 => (intro wq hSw; (try dsimp only at hSw); go_simp; (try (with_reducible rfl)))
      go_frame
      refine wpAnyH_takeD (some 31) (i := 16) (v := ?vh4_16) rfl rfl (by kernel_rfl) (by kernel_rfl) (by kernel_rfl) (fun _ _ _ h => h) (by rfl) ?hh4_16 (by assumption) ?_
      case hh4_16 => (intro wq hSw; (try dsimp only at hSw); go_simp; (try (with_reducible rfl)))
      go_frame
      refine wpAnyH_takeD (some 32) (i := 17) (v := ?vh4_17) rfl rfl (by kernel_rfl) (by kernel_rfl) (by kernel_rfl) (fun _ _ _ h => h) (by rfl) ?hh4_17 (by assumption) ?_
      case hh4_17 => (intro wq hSw; (try dsimp only at hSw); go_simp; (try (with_reducible rfl)))
      go_frame
      refine wpAnyH_takeD (some 33) (i := 18) (v := ?vh4_18) rfl rfl (by kernel_rfl) (by kernel_rfl) (by kernel_rfl) (fun _ _ _ h => h) (by rfl) ?hh4_18 (by assumption) ?_
      case hh4_18 => (intro wq hSw; (try dsimp only at hSw); go_simp; (try (with_reducible rfl)))
      go_frame
      refine wpAnyH_ready (rs := [19]) (by kernel_rfl) (by simp) ?_
      refine AllReadyH.cons rfl (fun K hK => ?_) AllReadyH.nil
      go_simp
      refine (HP1.out _ (hbx.trans ((hc3).mono hbx.size))).mono ?_; rintro en v4 ⟨rfl, hd4⟩; have hc4 := (hc3).trans (hd4.mono (hc3).size); clear hd4
      go_wp2_with fail
      refine hK.out _ _ (HE.out _ hc4) (fun hHeld => ?_)
      clear hK K
      try go_frame
      refine wpAnyH_takeD (some 35) (i := 20) (v := ?vh4_20) rfl rfl (by kernel_rfl) (by kernel_rfl) (by kernel_rfl) (fun _ _ _ h => h) (by rfl) ?hh4_20 (by assumption) ?_
      case hh4_20 => (intro wq hSw; (try dsimp only at hSw); go_simp; (try (with_reducible rfl)))
      go_frame
      refine wpAnyH_takeD (some 36) (i := 21) (v := ?vh4_21) rfl rfl (by kernel_rfl) (by kernel_rfl) (by kernel_rfl) (fun _ _ _ h => h) (by rfl) ?hh4_21 (by assumption) ?_
      case hh4_21 => (intro wq hSw; (try dsimp only at hSw); go_simp; (try (with_reducible rfl)))
      go_frame
      refine wpAnyH_takeD (some 37) (i := 22) (v := ?vh4_22) rfl rfl (by kernel_rfl) (by kernel_rfl) (by kernel_rfl) (fun _ _ _ h => h) (by rfl) ?hh4_22 (by assumption) ?_
      case hh4_22 => (intro wq hSw; (try dsimp only at hSw); go_simp; (try (with_reducible rfl)))
      go_frame
      refine wpAnyH_ready (rs := [23]) (by kernel_rfl) (by simp) ?_
      refine AllReadyH.cons rfl (fun K hK => ?_) AllReadyH.nil
      go_simp
      refine (HP2.out _ (hbx.trans ((hc4).mono hbx.size))).mono ?_; rintro en v5 ⟨rfl, hd5⟩; have hc5 := (hc4).trans (hd5.mono (hc4).size); clear hd5
      go_wp2_with fail
      refine hK.out _ _ (HE.out _ hc5) (fun hHeld => ?_)
      clear hK K
      try go_frame
      refine wpAnyH_takeD (some 39) (i := 24) (v := ?vh4_24) rfl rfl (by kernel_rfl) (by kernel_rfl) (by kernel_rfl) (fun _ _ _ h => h) (by rfl) ?hh4_24 (by assumption) ?_
      case hh4_24 => (intro wq hSw; (try dsimp only at hSw); go_simp; (try (with_reducible rfl)))
      go_frame
      refine wpAnyH_takeD (some 40) (i := 25) (v := ?vh4_25) rfl rfl (by kernel_rfl) (by kernel_rfl) (by kernel_rfl) (fun _ _ _ h => h) (by rfl) ?hh4_25 (by assumption) ?_
      case hh4_25 => (intro wq hSw; (try dsimp only at hSw); go_simp; (try (with_reducible rfl)))
      go_frame
      refine wpAnyH_takeD (some 41) (i := 26) (v := ?vh4_26) rfl rfl (by kernel_rfl) (by kernel_rfl) (by kernel_rfl) (fun _ _ _ h => h) (by rfl) ?hh4_26 (by assumption) ?_
      case hh4_26 => (intro wq hSw; (try dsimp only at hSw); go_simp; (try (with_reducible rfl)))
      go_frame
      refine wpAnyH_takeD (some 42) (i := 27) (v := ?vh4_27) rfl rfl (by kernel_rfl) (by kernel_rfl) (by kernel_rfl) (fun _ _ _ h => h) (by rfl) ?hh4_27 (by assumption) ?_
      case hh4_27 => (intro wq hSw; (try dsimp only at hSw); go_simp; (try (with_reducible rfl)))
      go_frame
      refine wpAnyH_ready (rs := [28]) (by kernel_rfl) (by simp) ?_
      refine AllReadyH.cons rfl (fun K hK => ?_) AllReadyH.nil
      go_simp
      refine (HAw.out _).mono ?_; rintro en v6 ⟨rfl, hd6⟩; have hc6 := (hc5).trans (hd6.mono (hc5).size); clear hd6
      go_wp2_with fail
      refine hK.out _ _ (HE.out _ hc6) (fun hHeld => ?_)
      clear hK K
      try go_frame
      refine wpAnyH_takeD (some 44) (i := 29) (v := ?vh4_29) rfl rfl (by kernel_rfl) (by kernel_rfl) (by kernel_rfl) (fun _ _ _ h => h) (by rfl) ?hh4_29 (by assumption) ?_
      case hh4_29 => (intro wq hSw; (try dsimp only at hSw); go_simp; (try (with_reducible rfl)))
      go_frame
      refine wpAnyH_takeD (some 6) (i := 30) (v := ?vh4_30) rfl rfl (by kernel_rfl) (by kernel_rfl) (by kernel_rfl) (fun _ _ _ h => h) (by rfl) ?hh4_30 (by assumption) ?_
      case hh4_30 => (intro wq hSw; (try dsimp only at hSw); go_simp; (try (with_reducible rfl)))
      go_frame
      refine wpAnyH_done (by kernel_rfl) ?_ _
      refine NoPanic.normal ?_
      go_wp2
      go_ret
      exact ⟨by simp, hbx.trans (hc6.mono hbx.size)⟩
    | false =>
      clear hkk
      refine wp_region_noPanic ?_
      refine wp_region_held_drew (S := fun w' => rowAt w' g1 0 46 = some X ∧ rowAt w' g2 0 46 = some Y) (by kernel_rfl) (HE.out _ hb0.drew) (fun hHeld => ?_)
      refine wpAnyH_takeD (some 15) (i := 0) (v := ?vh5_0) rfl rfl (by kernel_rfl) (by kernel_rfl) (by kernel_rfl) (fun _ _ _ h => h) (by rfl) ?hh5_0 (by assumption) ?_
      case hh5_0 => (intro wq hSw; (try dsimp only at hSw); go_simp; (try (with_reducible rfl)))
      go_frame
      refine wpAnyH_takeD (some 16) (i := 1) (v := ?vh5_1) rfl rfl (by kernel_rfl) (by kernel_rfl) (by kernel_rfl) (fun _ _ _ h => h) (by rfl) ?hh5_1 (by assumption) ?_
      case hh5_1 => (intro wq hSw; (try dsimp only at hSw); go_simp; (try (with_reducible rfl)))
      go_frame
      refine wpAnyH_takeD (some 18) (i := 3) (v := ?vh5_3) rfl rfl (by kernel_rfl) (by kernel_rfl) (by kernel_rfl) (fun _ _ _ h => h) (by rfl) ?hh5_3 (by assumption) ?_
      case hh5_3 => (intro wq hSw; (try dsimp only at hSw); go_simp; (try (with_reducible rfl)))
      go_frame
      refine wpAnyH_takeD (some 19) (i := 4) (v := ?vh5_4) rfl rfl (by kernel_rfl) (by kernel_rfl) (by kernel_rfl) (fun _ _ _ h => h) (by rfl) ?hh5_4 (by assumption) ?_
      case hh5_4 => (intro wq hSw; (try dsimp only at hSw); go_simp; (try (with_reducible rfl)))
      go_frame
      refine wpAnyH_ready (rs := [2]) (by kernel_rfl) (by simp) ?_
      refine AllReadyH.cons rfl (fun K hK => ?_) AllReadyH.nil
      go_simp
      refine (HP1.out _ (hbx.trans ((hb0.drew).mono hbx.size))).mono ?_; rintro en v0 ⟨rfl, hd0⟩; have hc0 := (hb0.drew).trans (hd0.mono (hb0.drew).size); clear hd0
      go_wp2_with fail
      refine hK.out _ _ (HE.out _ hc0) (fun hHeld => ?_)
      clear hK K
      try go_frame
      refine wpAnyH_ready (rs := [5]) (by kernel_rfl) (by simp) ?_
      refine AllReadyH.cons rfl (fun K hK => ?_) AllReadyH.nil
      go_simp
      refine (HR1.out _ (hbx.trans ((hc0).mono hbx.size))).mono ?_; rintro en v1 ⟨rfl, hd1⟩; have hc1 := (hc0).trans (hd1.mono (hc0).size); clear hd1
      go_wp2_with fail
      refine hK.out _ _ (HE.out _ hc1) (fun hHeld => ?_)
      clear hK K
      try go_frame
      refine wpAnyH_takeD (some 21) (i := 6) (v := ?vh5_6) rfl rfl (by kernel_rfl) (by kernel_rfl) (by kernel_rfl) (fun _ _ _ h => h) (by rfl) ?hh5_6 (by assumption) ?_
      case hh5_6 => (intro wq hSw; (try dsimp only at hSw); go_simp; (try (with_reducible rfl)))
      go_frame
      refine wpAnyH_takeD (some 22) (i := 7) (v := ?vh5_7) rfl rfl (by kernel_rfl) (by kernel_rfl) (by kernel_rfl) (fun _ _ _ h => h) (by rfl) ?hh5_7 (by assumption) ?_
      case hh5_7 => (intro wq hSw; (try dsimp only at hSw); go_simp; (try (with_reducible rfl)))
      go_frame
      refine wpAnyH_takeD (some 23) (i := 8) (v := ?vh5_8) rfl rfl (by kernel_rfl) (by kernel_rfl) (by kernel_rfl) (fun _ _ _ h => h) (by rfl) ?hh5_8 (by assumption) ?_
      case hh5_8 => (intro wq hSw; (try dsimp only at hSw); go_simp; (try (with_reducible rfl)))
      go_frame
      refine wpAnyH_takeD (some 24) (i := 9) (v := ?vh5_9) rfl rfl (by kernel_rfl) (by kernel_rfl) (by kernel_rfl) (fun _ _ _ h => h) (by rfl) ?hh5_9 (by assumption) ?_
      case hh5_9 => (intro wq hSw; (try dsimp only at hSw); go_simp; (try (with_reducible rfl)))
      go_frame
      refine wpAnyH_takeD (some 26) (i := 11) (v := ?vh5_11) rfl rfl (by kernel_rfl) (by kernel_rfl) (by kernel_rfl) (fun _ _ _ h => h) (by rfl) ?hh5_11 (by assumption) ?_
      case hh5_11 => (intro wq hSw; (try dsimp only at hSw); go_simp; (try (with_reducible rfl)))
      go_frame
      refine wpAnyH_takeD (some 27) (i := 12) (v := ?vh5_12) rfl rfl (by kernel_rfl) (by kernel_rfl) (by kernel_rfl) (fun _ _ _ h => h) (by rfl) ?hh5_12 (by assumption) ?_
      case hh5_12 => (intro wq hSw; (try dsimp only at hSw); go_simp; (try (with_reducible rfl)))
      go_frame
      refine wpAnyH_ready (rs := [10]) (by kernel_rfl) (by simp) ?_
      refine AllReadyH.cons rfl (fun K hK => ?_) AllReadyH.nil
      go_simp
      refine (HP2.out _ (hbx.trans ((hc1).mono hbx.size))).mono ?_; rintro en v2 ⟨rfl, hd2⟩; have hc2 := (hc1).trans (hd2.mono (hc1).size); clear hd2
      go_wp2_with fail
      refine hK.out _ _ (HE.out _ hc2) (fun hHeld => ?_)
      clear hK K
      try go_frame
      refine wpAnyH_ready (rs := [13]) (by kernel_rfl) (by simp) ?_
      refine AllReadyH.cons rfl (fun K hK => ?_) AllReadyH.nil
      go_simp
      refine (HR2.out _ (hbx.trans ((hc2).mono hbx.size))).mono ?_; rintro en v3 ⟨rfl, hd3⟩; have hc3 := (hc2).trans (hd3.mono (hc2).size); clear hd3
      go_wp2_with fail
      refine hK.out _ _ (HE.out _ hc3) (fun hHeld => ?_)
      clear hK K
      try go_frame
      refine wpAnyH_takeD (some 29) (i := 14) (v := ?vh5_14) rfl rfl (by kernel_rfl) (by kernel_rfl) (by kernel_rfl) (fun _ _ _ h => h) (by rfl) ?hh5_14 (by assumption) ?_
      case hh5_14 => (intro wq hSw; (try dsimp only at hSw); go_simp; (try (with_reducible rfl)))
      go_frame
      refine wpAnyH_takeD (some 30) (i := 15) (v := ?vh5_15) rfl rfl (by kernel_rfl) (by kernel_rfl) (by kernel_rfl) (fun _ _ _ h => h) (by rfl) ?hh5_15 (by assumption) ?_
      case hh5_15 => (intro wq hSw; (try dsimp only at hSw); go_simp; (try (with_reducible rfl)))
      go_frame
      refine wpAnyH_takeD (some 31) (i := 16) (v := ?vh5_16) rfl rfl (by kernel_rfl) (by kernel_rfl) (by kernel_rfl) (fun _ _ _ h => h) (by rfl) ?hh5_16 (by assumption) ?_
      case hh5_16 => (intro wq hSw; (try dsimp only at hSw); go_simp; (try (with_reducible rfl)))
      go_frame
      refine wpAnyH_takeD (some 32) (i := 17) (v := ?vh5_17) rfl rfl (by kernel_rfl) (by kernel_rfl) (by kernel_rfl) (fun _ _ _ h => h) (by rfl) ?hh5_17 (by assumption) ?_
      case hh5_17 => (intro wq hSw; (try dsimp only at hSw); go_simp; (try (with_reducible rfl)))
      go_frame
      refine wpAnyH_takeD (some 33) (i := 18) (v := ?vh5_18) rfl rfl (by kernel_rfl) (by kernel_rfl) (by kernel_rfl) (fun _ _ _ h => h) (by rfl) ?hh5_18 (by assumption) ?_
      case hh5_18 => (intro wq hSw; (try dsimp only at hSw); go_simp; (try (with_reducible rfl)))
      go_frame
      refine wpAnyH_ready (rs := [19]) (by kernel_rfl) (by simp) ?_
      refine AllReadyH.cons rfl (fun K hK => ?_) AllReadyH.nil
      go_simp
      refine (HP1.out _ (hbx.trans ((hc3).mono hbx.size))).mono ?_; rintro en v4 ⟨rfl, hd4⟩; have hc4 := (hc3).trans (hd4.mono (hc3).size); clear hd4
      go_wp2_with fail
      refine hK.out _ _ (HE.out _ hc4) (fun hHeld => ?_)
      clear hK K
      try go_frame
      refine wpAnyH_takeD (some 35) (i := 20) (v := ?vh5_20) rfl rfl (by kernel_rfl) (by kernel_rfl) (by kernel_rfl) (fun _ _ _ h => h) (by rfl) ?hh5_20 (by assumption) ?_
      case hh5_20 => (intro wq hSw; (try dsimp only at hSw); go_simp; (try (with_reducible rfl)))
      go_frame
      refine wpAnyH_skipD (some 36) (i := 21) rfl rfl (by kernel_rfl) (by kernel_rfl) (by kernel_rfl) (fun _ _ _ h => h) (by rfl) (by assumption) ?_
      go_frame
      refine wpAnyH_skipD (some 37) (i := 22) rfl rfl (by kernel_rfl) (by kernel_rfl) (by kernel_rfl) (fun _ _ _ h => h) (by rfl) (by assumption) ?_
      go_frame
      refine wpAnyH_skipD (some 38) (i := 23) rfl rfl (by kernel_rfl) (by kernel_rfl) (by kernel_rfl) (fun _ _ _ h => h) (by rfl) (by assumption) ?_
      go_frame
      refine wpAnyH_takeD (some 39) (i := 24) (v := ?vh5_24) rfl rfl (by kernel_rfl) (by kernel_rfl) (by kernel_rfl) (fun _ _ _ h => h) (by rfl) ?hh5_24 (by assumption) ?_
      case hh5_24 => (intro wq hSw; (try dsimp only at hSw); go_simp; (try (with_reducible rfl)))
      go_frame
      refine wpAnyH_takeD (some 40) (i := 25) (v := ?vh5_25) rfl rfl (by kernel_rfl) (by kernel_rfl) (by kernel_rfl) (fun _ _ _ h => h) (by rfl) ?hh5_25 (by assumption) ?_
      case hh5_25 => (intro wq hSw; (try dsimp only at hSw); go_simp; (try (with_reducible rfl)))
      go_frame
      refine wpAnyH_takeD (some 41) (i := 26) (v := ?vh5_26) rfl rfl (by kernel_rfl) (by kernel_rfl) (by kernel_rfl) (fun _ _ _ h => h) (by rfl) ?hh5_26 (by assumption) ?_
      case hh5_26 => (intro wq hSw; (try dsimp only at hSw); go_simp; (try (with_reducible rfl)))
      go_frame
      refine wpAnyH_takeD (some 42) (i := 27) (v := ?vh5_27) rfl rfl (by kernel_rfl) (by kernel_rfl) (by kernel_rfl) (fun _ _ _ h => h) (by rfl) ?hh5_27 (by assumption) ?_
      case hh5_27 => (intro wq hSw; (try dsimp only at hSw); go_simp; (try (with_reducible rfl)))
      go_frame
      refine wpAnyH_ready (rs := [28]) (by kernel_rfl) (by simp) ?_
      refine AllReadyH.cons rfl (fun K hK => ?_) AllReadyH.nil
      go_simp
      refine (HAw.out _).mono ?_; rintro en v5 ⟨rfl, hd5⟩; have hc5 := (hc4).trans (hd5.mono (hc4).size); clear hd5
      go_wp2_with fail
      refine hK.out _ _ (HE.out _ hc5) (fun hHeld => ?_)
      clear hK K
      try go_frame
      refine wpAnyH_takeD (some 44) (i := 29) (v := ?vh5_29) rfl rfl (by kernel_rfl) (by kernel_rfl) (by kernel_rfl) (fun _ _ _ h => h) (by rfl) ?hh5_29 (by assumption) ?_
      case hh5_29 => (intro wq hSw; (try dsimp only at hSw); go_simp; (try (with_reducible rfl)))
      go_frame
      refine wpAnyH_takeD (some 6) (i := 30) (v := ?vh5_30) rfl rfl (by kernel_rfl) (by kernel_rfl) (by kernel_rfl) (fun _ _ _ h => h) (by rfl) ?hh5_30 (by assumption) ?_
      case hh5_30 => (intro wq hSw; (try dsimp only at hSw); go_simp; (try (with_reducible rfl)))
      go_frame
      refine wpAnyH_done (by kernel_rfl) ?_ _
      refine NoPanic.normal ?_
      go_wp2
      go_ret
      exact ⟨by simp, hbx.trans (hc5.mono hbx.size)⟩
end Go.Proofs.YthmecidpjlaonaaGreat
namespace Go.Proofs.YthmecidpjlaonaaGreat.evidenceValid
open Go.ChangeShapes Go.WideShapes Go.ChangeAt Go.RowKit

theorem own : ownKnob Tryz.prog.godebug = none := by kernel_rfl
theorem laidOut : laidOutB Tryz.prog = true := by kernel_rfl

set_option maxRecDepth 100000 in
set_option maxHeartbeats 1000000 in
theorem lifted (os : Os) (started : os.Started) (H : Type) (enc : TypeId × Value → H) :
    ReturnsInHanded {} Tryz.checked os 5 .any (Rows.evidenceValidSpec.pre6 enc Tryz.prog Tryz.f5 Rows.evidenceValidRow.domain false) (Rows.evidenceValidSpec.post enc Tryz.prog Tryz.f5 false true false false) := by
  refine returnsInHanded_of_change_sized (C := Tryz.checked) own started (by kernel_rfl) Tryz.func5
    (ChangeSpec.witness6 (enc := enc) (C := Tryz.checked) false ⟨#[], #[.slice none 0 0, .agg zeroSc, .agg zeroSc], []⟩ 8 (by kernel_rfl) (by kernel_rfl) (by kernel_rfl) (by kernel_rfl)) ?_
  intro W base args ds gs before hval0 hW hcnd hsz0 _
  have hval : ∀ (j : Nat) t v, Tryz.f5.params[j]? = some t → args[j]? = some v → Value.okWide Tryz.prog W .any base t v := hval0
  have hW' := hW
  obtain ⟨p, q, hA0, hV, rfl, hfz, hnd⟩ := hW
  have hA : DataW.TrodAll enc Tryz.prog W 0 (fun _ => true) true Tryz.f5.params.toList args.toList ds p := hA0
  have hsz : (DataW.weightsEach Tryz.prog (Tryz.f5.params.toList ++ Rows.evidenceValidSpec.plain.varTypes Tryz.prog) (ds ++ gs)).all (· ≤ reachBytes) = true := hsz0
  rw [Tryz.params5] at hA hval hsz
  obtain ⟨v0, vs0, d0, ds0, p0, q0, hargs, rfl, rfl, h0, r0⟩ := trodAll_cons hA
  obtain ⟨v1, vs1, d1, ds1, p1, q1, ha1, rfl, rfl, h1, r1⟩ := trodAll_cons r0
  subst ha1
  obtain ⟨v2, vs2, d2, ds2, p2, q2, ha2, rfl, rfl, h2, r2⟩ := trodAll_cons r1
  subst ha2
  obtain ⟨rfl, rfl, rfl⟩ := trodAll_nil r2
  obtain rfl : args = #[v0, v1, v2] := by cases args; simp_all
  obtain ⟨rfl, rfl⟩ := trodVars_none hV
  have hwt : ∀ k ∈ DataW.weightsEach Tryz.prog ([22, 34, 34] ++ Rows.evidenceValidSpec.plain.varTypes Tryz.prog) ([d0, d1, d2] ++ []), k ≤ reachBytes := fun k hk => by simpa using List.all_eq_true.1 hsz k hk
  have k0 := h0
  have lt0 : ∀ x ∈ p0, x.block < W.heap.size := by obtain ⟨m, hm⟩ := k0; exact DataW.trod_lt m _ _ _ hm
  obtain ⟨A0, l0, cap0, hv0, hr0, _, hl0, hm0, _⟩ : ∃ (A : Option Addr) (l : List Nm) (cap : Nat), v0.cells.toList = [.slice A l.length cap] ∧ Rd W W.heap.size A (l.flatMap nmc) ∧ (∀ a ∈ l, True) ∧ l.length ≤ cap ∧ cap ≤ maxLen ∧ l.length * Tryz.prog.bytesOf 29 ≤ reachBytes := by
    obtain ⟨fuel, hf⟩ := h0
    exact open_list nmc 8 (fun _ => True) Tryz.underlying22 cells39 (by omega) (fun n cs x h _ => by obtain ⟨nm, e⟩ := open_name h; exact ⟨nm, e, trivial⟩) (fun _ => rfl) hf (mem_weightsEach hwt (j := 0) (t := 22) rfl rfl)
  obtain ⟨a0, len0, c0, rfl⟩ := okWide_slice Tryz.underlying22 (hval 0 22 v0 rfl rfl)
  simp [Value.cells] at hv0
  obtain ⟨rfl, rfl, rfl⟩ := hv0
  have k1 := h1
  have lt1 : ∀ x ∈ p1, x.block < W.heap.size := by obtain ⟨m, hm⟩ := k1; exact DataW.trod_lt m _ _ _ hm
  obtain ⟨s1, hv1, hok1⟩ : ∃ s : Sg, v1.cells.toList = s.cells.toList ∧ SgOk W W.heap.size s ∧ SgCap s := by
    obtain ⟨fuel, hf⟩ := h1
    exact open_signed2 hf (mem_weightsEach hwt (j := 1) (t := 34) rfl rfl)
  obtain ⟨cs1, hag1, _⟩ := okWide_struct Tryz.underlying34 (hval 1 34 v1 rfl rfl)
  obtain rfl := agg_of hag1 hv1
  clear hag1 hv1
  have k2 := h2
  have lt2 : ∀ x ∈ p2, x.block < W.heap.size := by obtain ⟨m, hm⟩ := k2; exact DataW.trod_lt m _ _ _ hm
  obtain ⟨s2, hv2, hok2⟩ : ∃ s : Sg, v2.cells.toList = s.cells.toList ∧ SgOk W W.heap.size s ∧ SgCap s := by
    obtain ⟨fuel, hf⟩ := h2
    exact open_signed2 hf (mem_weightsEach hwt (j := 2) (t := 34) rfl rfl)
  obtain ⟨cs2, hag2, _⟩ := okWide_struct Tryz.underlying34 (hval 2 34 v2 rfl rfl)
  obtain rfl := agg_of hag2 hv2
  clear hag2 hv2
  clear hA0 hval0
  refine (lvalid_any a0 l0.length c0 l0 s1 s2 W rfl hr0 hok1 hok2).mono fun e W' ⟨he, bel⟩ => ?_
  subst he
  exact ⟨_, rfl, _, _, _, [], _, [], hW', trodAll_mk1 (shut_bool Tryz.underlying4 _), (trodAll_cons_mk (Below.trod laidOut (by kernel_rfl) (of_decide_eq_true (by kernel_rfl)) k0 bel lt0) (trodAll_cons_mk (Below.trod laidOut (by kernel_rfl) (of_decide_eq_true (by kernel_rfl)) k1 bel lt1) (trodAll_cons_mk (Below.trod laidOut (by kernel_rfl) (of_decide_eq_true (by kernel_rfl)) k2 bel lt2) trodAll_mk0))), rfl, bel.frame _, fun h => by cases h⟩

theorem over : Rows.evidenceValidRow.holds Tryz.pinned (OpenSpec.ofChange Rows.evidenceValidSpec) :=
  OpenClaim.holds_of_wide 5 Tryz.f5 rfl rfl rfl rfl rfl rfl rfl ⟨rfl, rfl, rfl, rfl, rfl⟩ rfl rfl rfl rfl rfl (by kernel_rfl) Tryz.func5 closed
    (of_decide_eq_true (by kernel_rfl)) (by unfold Func.isWrapper; first | (rw [if_pos (by decide +kernel)]; kernel_rfl) | (rw [if_neg (by decide +kernel)]; exact ⟨rfl, rfl⟩))
    (fun os started H enc _ => lifted os started H enc)

theorem proved : Rows.EvidenceValidSaid := over
end Go.Proofs.YthmecidpjlaonaaGreat.evidenceValid
