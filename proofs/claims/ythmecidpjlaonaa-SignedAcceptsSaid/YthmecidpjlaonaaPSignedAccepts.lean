/-
  The closed facts of the row of signedAccepts, one by one. No condition.
  The law SignedKeys returns true and changes nothing that was there. Condition: none but that the numbers are int64's.
  The law SignedAccepts returns true and changes nothing that was there. Condition: none but that the numbers are int64's.
  The statement SignedAccepts holds: Verify accepts a vote that was signed, with the public key of the seed, and refuses it with a changed leaf beyond the capacity or a shorter signature. No condition.
-/
import Derived.Test.YthmecidpjlaonaaFactA
import Derived.Test.YthmecidpjlaonaaFactB
import Derived.Test.YthmecidpjlaonaaFactC
import Derived.Test.YthmecidpjlaonaaFactD
import Derived.Test.YthmecidpjlaonaaGSgn3
import Derived.Test.YthmecidpjlaonaaGKey
import Derived.Test.YthmecidpjlaonaaGSame8
import Derived.Test.YthmecidpjlaonaaGOpen2
import Derived.ShutString
import Derived.ChangeOld
namespace Go.Proofs.Ythmecidpjlaonaa.signedAccepts
theorem j1 : (Rows.signedAcceptsRow.wf (OpenSpec.ofChange Rows.signedAcceptsSpec)) = true := by kernel_rfl
theorem j2 : (laidOutB Try.prog) = true := fact2
theorem j3 : (mapsRowed Try.prog) = true := fact3
theorem j4 : (Try.f15.params.all (Try.prog.readableRec ·)) = true := by kernel_rfl
theorem j5 : (namedTie Try.prog Rows.signedAcceptsRow.named Rows.signedAcceptsSpec.vars) = true := by kernel_rfl
theorem j6 : ((Rows.signedAcceptsRow.stops == [])) = true := by kernel_rfl
theorem j7 : ((Try.prog.stops == [])) = true := by kernel_rfl
theorem j8 : ((Rows.signedAcceptsRow.knobs == [])) = true := by kernel_rfl
theorem j9 : ((Try.prog.stopKnobs == [])) = true := by kernel_rfl
theorem j10 : ((Rows.signedAcceptsRow.inPlace == Try.prog.inPlace 15)) = true := by kernel_rfl
theorem j11 : ((Rows.signedAcceptsRow.unfollowed == Try.prog.unfollowed 15)) = true := by kernel_rfl
theorem j12 : ((Rows.signedAcceptsRow.recurses == Try.prog.recurses 15)) = true := by kernel_rfl
theorem j13 : ((Rows.signedAcceptsRow.named == Try.prog.varsNamed 15)) = true := by kernel_rfl
theorem j14 : ((Rows.signedAcceptsRow.maps == (Try.f15.params.toList ++ Rows.signedAcceptsSpec.plain.varTypes Try.prog).any (Try.prog.mapsRec ·))) = true := by kernel_rfl
theorem j15 : ((Rows.signedAcceptsRow.ifaces == (Try.f15.params.toList ++ Rows.signedAcceptsSpec.plain.varTypes Try.prog).any (Try.prog.ifacesRec ·))) = true := by kernel_rfl
theorem j16 : ((Rows.signedAcceptsRow.mapsOut == Try.prog.mapsAmong Try.f15.resultTypes.toList)) = true := by kernel_rfl
theorem j17 : ((Rows.signedAcceptsRow.loops == (Try.f15.params.toList ++ Rows.signedAcceptsSpec.plain.varTypes Try.prog).any (Try.prog.loopsFrom ·))) = true := by kernel_rfl
theorem j18 : ((Rows.signedAcceptsRow.wideKeys == (Try.f15.params.toList ++ Rows.signedAcceptsSpec.plain.varTypes Try.prog ++ Try.f15.resultTypes.toList).any (Try.prog.wideKeysFrom ·))) = true := by kernel_rfl
theorem j19 : (Rows.signedAcceptsSpec.vars.all (Try.prog.varReadable ·)) = true := by kernel_rfl
theorem j20 : (Try.f15.resultTypes.all (fun t => Try.prog.readableRec t && decide (t < Try.prog.types.size))) = true := by kernel_rfl
theorem j21 : ((Rows.signedAcceptsRow.ifacesOut == Try.f15.resultTypes.toList.any (Try.prog.ifacesRec ·))) = true := by kernel_rfl
theorem j22 : ((Rows.signedAcceptsRow.loopsOut == Try.f15.resultTypes.toList.any (Try.prog.loopsFrom ·))) = true := by kernel_rfl
theorem j23 : ((Rows.signedAcceptsRow.plainKeys == Try.prog.plainKeys)) = true := by kernel_rfl
theorem j24 : (Rows.signedAcceptsRow.shortTexts.isNone) = true := by kernel_rfl
theorem j25 : (Try.prog.stopsHeard) = true := fact25
theorem j26 : (Try.prog.mayEnter) = true := fact26
theorem j27 : ((Rows.signedAcceptsRow.lifted == Try.prog.liftsFinal)) = true := fact27
theorem j28 : ((Try.prog.make == some Rows.signedAcceptsRow.make)) = true := fact28
theorem j29 : ((Rows.signedAcceptsRow.kinds == (if Rows.signedAcceptsRow.domain.isEmpty then [] else Try.f15.params.toList.map fun t => match Try.prog.underlying t with | some (.int k) => some k | _ => none))) = true := by kernel_rfl
theorem j30 : ((Rows.signedAcceptsRow.pinned == Rows.signedAcceptsRow.pinnedBy)) = true := by kernel_rfl
theorem j31 : ((Rows.signedAcceptsRow.veiled == (Try.f15.params.toList ++ Rows.signedAcceptsSpec.plain.varTypes Try.prog ++ Try.f15.resultTypes.toList).any (Try.prog.veiledRec ·))) = true := by kernel_rfl
theorem j32 : (Rows.signedAcceptsRow.veiledFits Try.prog Try.f15.params.toList (Try.f15.params.toList ++ Rows.signedAcceptsSpec.plain.varTypes Try.prog ++ Try.f15.resultTypes.toList)) = true := by kernel_rfl
set_option maxRecDepth 100000 in
theorem closed : joinedFacts Try.prog 15 Try.f15 Rows.signedAcceptsSpec Rows.signedAcceptsRow = true := by
  unfold joinedFacts
  exact and_t (and_t (and_t (and_t (and_t (and_t (and_t (and_t (and_t (and_t (and_t (and_t (and_t (and_t (and_t (and_t (and_t (and_t (and_t (and_t (and_t (and_t (and_t (and_t (and_t (and_t (and_t (and_t (and_t (and_t (and_t (j1) j2) j3) j4) j5) j6) j7) j8) j9) j10) j11) j12) j13) j14) j15) j16) j17) j18) j19) j20) j21) j22) j23) j24) j25) j26) j27) j28) j29) j30) j31) j32
end Go.Proofs.Ythmecidpjlaonaa.signedAccepts
namespace Go.Proofs.Ythmecidpjlaonaa
open Go.RowKit
attribute [local go_sem ↓] Go.wp_at_zero Go.wp_at_succ loadNm loadVt loadSg loadEv
attribute [local go_sem] runNm runVt runSg runEv pickRow_some rowAt_drew rowAt_drewN

/-- What a signing call returned: cells of a signed vote; its signature, if any, lies in a block of bytes. -/
def SignR (z : VS) (cs : Array Value) (w : World) : Prop := ∃ t : Sg, cs = t.cells ∧ t.vs = z ∧ SgOk w w.heap.size t ∧ (∀ p, t.A = some p → ∃ cur, Blk w p.block 5 cur)
theorem SignR.one {z : VS} {cs : Array Value} {V : World} (h : SignR z cs V) : cs.size = 23 ∧ ∀ u ∈ cs.toList, u.oneCell' = true := by
  obtain ⟨t, rfl, _⟩ := h
  exact ⟨Sg.size_cells _, fun u hu => one_sg _ hu⟩
theorem SignR.below {z : VS} {cs : Array Value} {V V' : World} (h : SignR z cs V) (hb : Below V.heap.size V V') : SignR z cs V' := by
  obtain ⟨t, rfl, h2, h3, h4⟩ := h
  refine ⟨t, rfl, h2, (h3.below hb).more hb.size, fun p hp => ?_⟩
  obtain ⟨cur, hc⟩ := h4 p hp
  exact ⟨cur, hc.below hb hc.lt⟩
/-- A block that holds no bytes has turned. -/
theorem SignR.kept {k ty : Nat} {z : VS} {cs x : Array Value} {V V' : World} (h : SignR z cs V) (hB : Blk V k ty x) (ht : 5 ≠ ty) (hg : V.grownBy V' (some k)) : SignR z cs V' := by
  obtain ⟨t, rfl, h2, ⟨h3, h5, h6⟩, h4⟩ := h
  have hne : ∀ p, t.A = some p → some p.block ≠ some k := fun p hp e => by
    obtain ⟨cur, hc⟩ := h4 p hp
    injection e with e
    rw [e] at hc
    exact ht (blk_type hc hB)
  refine ⟨t, rfl, h2, ⟨h3, (h5.kept hg (Nat.le_refl _) hne).more hg.size, h6⟩, fun p hp => ?_⟩
  obtain ⟨cur, hc⟩ := h4 p hp
  exact ⟨cur, hc.kept hg (hne p hp)⟩
theorem SgG.sign {base : Nat} {v : Vt} {sig : List UInt8} {cs : Array Value} {w : World} (h : SgG base v sig cs w) (hv : v.ok) (hl : sig.length ≤ 140737488351232) : SignR (v, sig) cs w := by
  obtain ⟨A, c, rfl, ho⟩ := h
  refine ⟨⟨v, sig, A, c⟩, rfl, rfl, ⟨hv, Rd.of_own ho, hl⟩, fun p hp => ?_⟩
  have hp' : A = some p := hp
  rcases ho.2 with ⟨e, _⟩ | ⟨g, cap, cur, e, _, hh, _⟩
  · injection e with e; rw [hp'] at e; cases e
  · injection e with e
    rw [hp'] at e
    injection e with e
    subst e
    exact ⟨cur, hh⟩
theorem SignR.zero (w : World) : SignR (zeroV, []) zeroSc w := ⟨zeroSg, rfl, rfl, ⟨by unfold zeroSg Vt.ok zeroV; decide, .inl rfl, by decide⟩, fun p hp => by cases hp⟩
/-- Signing with a new key. -/
theorem sign_all (s : Nm) (leaf : Int) (v : Vt) (w : World) (hv : v.ok) : ∃ ok z, (∀ W, w.heap.size ≤ W.heap.size → Calls Try.prog 31 #[s.val, .int .i64 leaf, v.val] W (fun e w' => ∃ cs, e = .returned (.tuple #[.agg cs, .bool ok]) ∧ SignR z cs w' ∧ Below W.heap.size W w')) ∧
    ∀ h m W, KeyAt s h m W → Calls Try.prog 38 #[.pointer (some ⟨h, 0, none⟩), .int .i64 leaf, v.val] W (fun e w' => ∃ cs, e = .returned (.tuple #[.agg cs, .bool ok]) ∧ SignR z cs w' ∧ W.grownBy w' (some m)) := by
  by_cases hy : ValidP v
  · by_cases hl : 0 ≤ leaf ∧ leaf < 1024
    · obtain ⟨n, rfl⟩ := Int.eq_ofNat_of_zero_le hl.1
      have hn : n < 1024 := by omega
      have h370 : (sigF s n (nameF v)).length ≤ 140737488351232 := by rw [sigF_len]; omega
      refine ⟨true, (v, sigF s n (nameF v)), fun W _ => ?_, fun h m W hk => ?_⟩
      · refine (sign_yes s n v W hv hn hy).mono ?_
        rintro e w' ⟨cs, rfl, hG, hb⟩
        exact ⟨cs, rfl, hG.sign hv h370, hb⟩
      · refine (signWith_yes s h m n 0 v W hv hk hn hy (Nat.zero_le _)).mono ?_
        rintro e w' ⟨cs, rfl, hG, hg⟩
        exact ⟨cs, rfl, hG.sign hv h370, hg⟩
    · have hn : leaf < 0 ∨ 1024 ≤ leaf := by omega
      refine ⟨false, (zeroV, []), fun W _ => ?_, fun h m W hk => ?_⟩
      · refine (sign_not s leaf v W hv (.inr hn)).mono ?_
        rintro e w' ⟨rfl, hb⟩
        exact ⟨zeroSc, rfl, SignR.zero _, hb⟩
      · refine (signWith_no s h m leaf v W hv hk.1 hn hy).mono ?_
        rintro e w' ⟨rfl, hb⟩
        exact ⟨zeroSc, rfl, SignR.zero _, below_grown hb⟩
  · refine ⟨false, (zeroV, []), fun W _ => ?_, fun h m W hk => ?_⟩
    · refine (sign_not s leaf v W hv (.inl hy)).mono ?_
      rintro e w' ⟨rfl, hb⟩
      exact ⟨zeroSc, rfl, SignR.zero _, hb⟩
    · refine (signWith_bad _ leaf v W hv hy).mono ?_
      rintro e w' ⟨rfl, hb⟩
      exact ⟨zeroSc, rfl, SignR.zero _, below_grown hb⟩
theorem signNil_all (leaf : Int) (v : Vt) (w : World) (hv : v.ok) : Calls Try.prog 38 #[.pointer none, .int .i64 leaf, v.val] w (SgNo w) := by
  by_cases hy : ValidP v
  · exact signWith_nil leaf v w hv hy
  · exact signWith_bad none leaf v w hv hy
/-- Where the law stands behind its first call: a block with a signed vote, a flag. -/
def FirstS (W : World) (z : VS) (ok : Bool) (s1 s2 : Value) (wx : World) : Prop :=
  ∃ g cs, s1 = .pointer (some ⟨g, 0, none⟩) ∧ s2 = .bool ok ∧ W.heap.size ≤ g ∧ Blk wx g 43 cs ∧ SignR z cs wx ∧ Below W.heap.size W wx

set_option maxRecDepth 100000 in
set_option maxHeartbeats 8000000 in
theorem lkeys_any (s : Nm) (leaf : Int) (v : Vt) (w : World) (hv : v.ok) : Calls Try.prog 9 #[s.val, .int .i64 leaf, v.val] w fun e w' => e = .returned (.bool true) ∧ Below w.heap.size w w' := by
  obtain ⟨W, hW⟩ : ∃ W, W = (w.alloc (.cells s.cells 39)).alloc (.cells v.cells 41) := ⟨_, rfl⟩
  have hbW : Below w.heap.size w W := by rw [hW]; exact ((Below.refl _ _).alloc (Nat.le_refl _) _).alloc (by simp) _
  have HBs : Hid (Blk W w.heap.size 39 s.cells) := by unfold Hid; rw [hW]; exact (Blk.new w _ _).alloc _
  have HBv : Hid (Blk W (w.heap.size + 1) 41 v.cells) := by
    unfold Hid; rw [hW]
    have := Blk.new (w.alloc (.cells s.cells 39)) 41 v.cells
    simpa using this
  obtain ⟨ok, z, h1, h2⟩ := sign_all s leaf v W hv
  have HSg := Lib.hid h1
  have HSW := Lib.hid h2
  have HNil := Lib.hid (fun V => signNil_all leaf v V hv)
  have HNK := Lib.hid (fun V => newKey_any s V)
  have HSame := Lib.hid same8_any
  have HAw := Lib.hid awake8_any
  obtain ⟨p, hp⟩ : ∃ p, p = w.heap.size := ⟨_, rfl⟩
  obtain ⟨q, hq⟩ : ∃ q, q = w.heap.size + 1 := ⟨_, rfl⟩
  rw [← hp] at HBs
  rw [← hq] at HBv
  have HRows : Hid (∀ V, Below W.heap.size W V → rowAt V p 0 8 = some s.cells ∧ rowAt V q 0 22 = some v.cells) := fun V hV => ⟨(HBs.out.below hV HBs.out.lt).row 8 rfl, (HBv.out.below hV HBv.out.lt).row 22 rfl⟩
  have hbx : Below W.heap.size W W := Below.refl _ _
  clear h1 h2
  go_enter Try.func9, Try.ntmps9
  go_upto_region 1 with fail
  rw [← hW, ← hq, ← hp]
  clear hW hq hp
  go_cut [7, 8] (fun s1 s2 wx => FirstS W z ok s1 s2 wx)
  case first =>
    have hZ : Blk (W.drew.alloc (.cells zeroSc 43)) W.heap.size 43 zeroSc := Blk.new W.drew _ _
    have hbA : Below W.heap.size W (W.drew.alloc (.cells zeroSc 43)) := hbx.drew.alloc (Nat.le_refl _) _
    refine wp_region_noPanic ?_
    refine wp_region_held_drew (S := fun w' => rowAt w' p 0 8 = some s.cells ∧ rowAt w' q 0 22 = some v.cells) (by kernel_rfl) (HRows.out _ hbx.drew) (fun hHeld => ?_)
    refine wpAnyH_takeD (some 14) (i := 0) (v := ?vh1_0) rfl rfl (by kernel_rfl) (by kernel_rfl) (by kernel_rfl) (fun _ _ _ h => h) (by rfl) ?hh1_0 (by assumption) ?_
    case hh1_0 => (intro wq hSw; (try dsimp only at hSw); go_simp; (try (with_reducible rfl)))
    go_frame
    refine wpAnyH_takeD (some 16) (i := 2) (v := ?vh1_2) rfl rfl (by kernel_rfl) (by kernel_rfl) (by kernel_rfl) (fun _ _ _ h => h) (by rfl) ?hh1_2 (by assumption) ?_
    case hh1_2 => (intro wq hSw; (try dsimp only at hSw); go_simp; (try (with_reducible rfl)))
    go_frame
    refine wpAnyH_takeD (some 17) (i := 3) (v := ?vh1_3) rfl rfl (by kernel_rfl) (by kernel_rfl) (by kernel_rfl) (fun _ _ _ h => h) (by rfl) ?hh1_3 (by assumption) ?_
    case hh1_3 => (intro wq hSw; (try dsimp only at hSw); go_simp; (try (with_reducible rfl)))
    go_frame
    refine wpAnyH_ready (rs := [1, 8]) (by kernel_rfl) (by simp) ?_
    refine AllReadyH.cons rfl (fun K hK => ?_) (AllReadyH.cons rfl (fun K hK => ?_) AllReadyH.nil)
    · go_simp
      refine (HNK.out _).mono ?_; rintro en w2 h2; obtain ⟨h, m, rfl, hm, hk2, hb2⟩ := h2.at; clear h2; have hbx2 := hbx.drew.trans (hb2.mono hbx.drew.size); have hkk := Lib.hid hk2; have hW1 : W.heap.size ≤ m := Nat.le_trans hbx.drew.size hm; clear hk2
      have hmlt := map_base hkk.out
      go_wp2_with fail
      refine hK.out _ _ (HRows.out _ hbx2) (fun hHeld => ?_)
      clear hK K
      try go_frame
      refine wpAnyH_ready (rs := [4, 8]) (by kernel_rfl) (by simp) ?_
      refine AllReadyH.cons rfl (fun K hK => ?_) (AllReadyH.cons rfl (fun K hK => ?_) AllReadyH.nil)
      · go_simp
        refine (HSW.out h m _ hkk.out).mono ?_; rintro en w3 ⟨cs, rfl, hR3, hg3⟩; have hbx3 := hbx2.grown hg3 hbx2.size (fun j hj => by injection hj with hj; subst hj; exact hW1); have HR3 := Lib.hid hR3; clear hR3
        go_wp2_with fail
        refine hK.out _ _ (HRows.out _ hbx3) (fun hHeld => ?_)
        clear hK K
        try go_frame
        have hZ3 : Blk (w3.alloc (.cells zeroSc 43)) w3.heap.size 43 zeroSc := Blk.new w3 _ _
        have hbxA := hbx3.alloc hbx3.size (.cells zeroSc 43)
        have HR3 := Lib.hid (HR3.out.below ((Below.refl _ _).alloc (Nat.le_refl _) (.cells zeroSc 43)))
        refine wpAnyH_takeD (some 13) (i := 5) (v := ?vh2_5) rfl rfl (by kernel_rfl) (by kernel_rfl) (by kernel_rfl) (fun _ _ _ h => h) (by rfl) ?hh2_5 (by assumption) ?_
        case hh2_5 => (intro wq hSw; (try dsimp only at hSw); go_simp; (try (with_reducible rfl)))
        go_frame
        refine wpAnyH_takeD (some 19) (i := 6) (v := ?vh2_6) rfl rfl (by kernel_rfl) (by kernel_rfl) (by kernel_rfl) (fun _ _ _ h => h) (by rfl) ?hh2_6 (by assumption) ?_
        case hh2_6 => (intro wq hSw; (try dsimp only at hSw); go_simp; (try (with_reducible rfl)))
        go_frame
        refine wpAnyH_takeD (some 20) (i := 7) (v := ?vh2_7) rfl rfl (by kernel_rfl) (by kernel_rfl) (by kernel_rfl) (fun _ _ _ h => h) (by rfl) ?hh2_7 (by assumption) ?_
        case hh2_7 => (intro wq hSw; (try dsimp only at hSw); go_simp; (try (with_reducible rfl)))
        go_frame
        refine wpAnyH_ready (rs := [8]) (by kernel_rfl) (by simp) ?_
        refine AllReadyH.cons rfl (fun K hK => ?_) AllReadyH.nil
        go_simp
        refine hK.out _ _ (HRows.out _ hbxA) (fun hHeld => ?_)
        clear hK K
        try go_frame
        refine wpAnyH_ready (rs := [9]) (by kernel_rfl) (by simp) ?_
        refine AllReadyH.cons rfl (fun K hK => ?_) AllReadyH.nil
        rw [if_pos (by rfl)]
        refine wp_store_blk 43 (.tmp 7) (.tmp 19) (by rfl) (w3.heap.size) cs (by rfl) (by rfl) 43 zeroSc hZ3 (by rw [HR3.out.one.1]; rfl) (by rw [HR3.out.one.1]; exact size_sg) HR3.out.one.2 (by rfl) ?_; intro w4 hR4 hg4 hsz4; have hbx4 := hbxA.grown hg4 hbxA.size (fun j hj => by injection hj with hj; subst hj; exact hbx3.size)
        refine hK.out _ _ (HRows.out _ hbx4) (fun hHeld => ?_)
        clear hK K
        try go_frame
        refine wpAnyH_takeD (some 8) (i := 10) (v := ?vh2_10) rfl rfl (by kernel_rfl) (by kernel_rfl) (by kernel_rfl) (fun _ _ _ h => h) (by rfl) ?hh2_10 (by assumption) ?_
        case hh2_10 => (intro wq hSw; (try dsimp only at hSw); go_simp; (try (with_reducible rfl)))
        go_frame
        refine wpAnyH_done (by kernel_rfl) ?_ _
        refine NoPanic.normal ?_
        go_wp2_with fail
        go_meet
        exact ⟨_, cs, rfl, rfl, hbx3.size, hR4, HR3.out.kept hZ3 (by decide) hg4, hbx4⟩
      · go_simp
        have hZ2 : Blk (w2.alloc (.cells zeroSc 43)) w2.heap.size 43 zeroSc := Blk.new w2 _ _
        have hbxA := hbx2.alloc hbx2.size (.cells zeroSc 43)
        refine hK.out _ _ (HRows.out _ hbxA) (fun hHeld => ?_)
        clear hK K
        try go_frame
        refine wpAnyH_ready (rs := [4]) (by kernel_rfl) (by simp) ?_
        refine AllReadyH.cons rfl (fun K hK => ?_) AllReadyH.nil
        go_simp
        refine (HSW.out h m _ (hkk.out.below ((Below.refl _ _).alloc (Nat.le_refl _) _))).mono ?_; rintro en w3 ⟨cs, rfl, hR3, hg3⟩; have hbx3 := hbxA.grown hg3 hbxA.size (fun j hj => by injection hj with hj; subst hj; exact hW1); have hZ3 := hZ2.kept hg3 (by simp; have := hmlt; omega); have HR3 := Lib.hid hR3; clear hR3
        go_wp2_with fail
        refine hK.out _ _ (HRows.out _ hbx3) (fun hHeld => ?_)
        clear hK K
        try go_frame
        refine wpAnyH_takeD (some 13) (i := 5) (v := ?vh3_5) rfl rfl (by kernel_rfl) (by kernel_rfl) (by kernel_rfl) (fun _ _ _ h => h) (by rfl) ?hh3_5 (by assumption) ?_
        case hh3_5 => (intro wq hSw; (try dsimp only at hSw); go_simp; (try (with_reducible rfl)))
        go_frame
        refine wpAnyH_takeD (some 19) (i := 6) (v := ?vh3_6) rfl rfl (by kernel_rfl) (by kernel_rfl) (by kernel_rfl) (fun _ _ _ h => h) (by rfl) ?hh3_6 (by assumption) ?_
        case hh3_6 => (intro wq hSw; (try dsimp only at hSw); go_simp; (try (with_reducible rfl)))
        go_frame
        refine wpAnyH_takeD (some 20) (i := 7) (v := ?vh3_7) rfl rfl (by kernel_rfl) (by kernel_rfl) (by kernel_rfl) (fun _ _ _ h => h) (by rfl) ?hh3_7 (by assumption) ?_
        case hh3_7 => (intro wq hSw; (try dsimp only at hSw); go_simp; (try (with_reducible rfl)))
        go_frame
        refine wpAnyH_ready (rs := [9]) (by kernel_rfl) (by simp) ?_
        refine AllReadyH.cons rfl (fun K hK => ?_) AllReadyH.nil
        rw [if_pos (by rfl)]
        refine wp_store_blk 43 (.tmp 7) (.tmp 19) (by rfl) (w2.heap.size) cs (by rfl) (by rfl) 43 zeroSc hZ3 (by rw [HR3.out.one.1]; rfl) (by rw [HR3.out.one.1]; exact size_sg) HR3.out.one.2 (by rfl) ?_; intro w4 hR4 hg4 hsz4; have hbx4 := hbx3.grown hg4 hbx3.size (fun j hj => by injection hj with hj; subst hj; exact hbx2.size)
        refine hK.out _ _ (HRows.out _ hbx4) (fun hHeld => ?_)
        clear hK K
        try go_frame
        refine wpAnyH_takeD (some 8) (i := 10) (v := ?vh3_10) rfl rfl (by kernel_rfl) (by kernel_rfl) (by kernel_rfl) (fun _ _ _ h => h) (by rfl) ?hh3_10 (by assumption) ?_
        case hh3_10 => (intro wq hSw; (try dsimp only at hSw); go_simp; (try (with_reducible rfl)))
        go_frame
        refine wpAnyH_done (by kernel_rfl) ?_ _
        refine NoPanic.normal ?_
        go_wp2_with fail
        go_meet
        exact ⟨_, cs, rfl, rfl, hbx2.size, hR4, HR3.out.kept hZ3 (by decide) hg4, hbx4⟩
    · go_simp
      refine hK.out _ _ (HRows.out _ hbA) (fun hHeld => ?_)
      clear hK K
      try go_frame
      refine wpAnyH_ready (rs := [1]) (by kernel_rfl) (by simp) ?_
      refine AllReadyH.cons rfl (fun K hK => ?_) AllReadyH.nil
      go_simp
      refine (HNK.out _).mono ?_; rintro en w2 h2; obtain ⟨h, m, rfl, hm, hk2, hb2⟩ := h2.at; clear h2; have hbx2 := hbA.trans (hb2.mono hbA.size); have hkk := Lib.hid hk2; have hW1 : W.heap.size ≤ m := Nat.le_trans hbA.size hm; clear hk2; have hZ2 := hZ.below hb2 hZ.lt; have hZm : W.heap.size ≠ m := by have := hm; simp at this; omega
      go_wp2_with fail
      refine hK.out _ _ (HRows.out _ hbx2) (fun hHeld => ?_)
      clear hK K
      try go_frame
      refine wpAnyH_ready (rs := [4]) (by kernel_rfl) (by simp) ?_
      refine AllReadyH.cons rfl (fun K hK => ?_) AllReadyH.nil
      go_simp
      refine (HSW.out h m _ hkk.out).mono ?_; rintro en w3 ⟨cs, rfl, hR3, hg3⟩; have hbx3 := hbx2.grown hg3 hbx2.size (fun j hj => by injection hj with hj; subst hj; exact hW1); have hZ3 := hZ2.kept hg3 (by simpa using hZm); have HR3 := Lib.hid hR3; clear hR3
      go_wp2_with fail
      refine hK.out _ _ (HRows.out _ hbx3) (fun hHeld => ?_)
      clear hK K
      try go_frame
      refine wpAnyH_takeD (some 13) (i := 5) (v := ?vh4_5) rfl rfl (by kernel_rfl) (by kernel_rfl) (by kernel_rfl) (fun _ _ _ h => h) (by rfl) ?hh4_5 (by assumption) ?_
      case hh4_5 => (intro wq hSw; (try dsimp only at hSw); go_simp; (try (with_reducible rfl)))
      go_frame
      refine wpAnyH_takeD (some 19) (i := 6) (v := ?vh4_6) rfl rfl (by kernel_rfl) (by kernel_rfl) (by kernel_rfl) (fun _ _ _ h => h) (by rfl) ?hh4_6 (by assumption) ?_
      case hh4_6 => (intro wq hSw; (try dsimp only at hSw); go_simp; (try (with_reducible rfl)))
      go_frame
      refine wpAnyH_takeD (some 20) (i := 7) (v := ?vh4_7) rfl rfl (by kernel_rfl) (by kernel_rfl) (by kernel_rfl) (fun _ _ _ h => h) (by rfl) ?hh4_7 (by assumption) ?_
      case hh4_7 => (intro wq hSw; (try dsimp only at hSw); go_simp; (try (with_reducible rfl)))
      go_frame
      refine wpAnyH_ready (rs := [9]) (by kernel_rfl) (by simp) ?_
      refine AllReadyH.cons rfl (fun K hK => ?_) AllReadyH.nil
      rw [if_pos (by rfl)]
      refine wp_store_blk 43 (.tmp 7) (.tmp 19) (by rfl) (W.heap.size) cs (by rfl) (by rfl) 43 zeroSc hZ3 (by rw [HR3.out.one.1]; rfl) (by rw [HR3.out.one.1]; exact size_sg) HR3.out.one.2 (by rfl) ?_; intro w4 hR4 hg4 hsz4; have hbx4 := hbx3.grown hg4 hbx3.size (fun j hj => by injection hj with hj; subst hj; exact Nat.le_refl _)
      refine hK.out _ _ (HRows.out _ hbx4) (fun hHeld => ?_)
      clear hK K
      try go_frame
      refine wpAnyH_takeD (some 8) (i := 10) (v := ?vh4_10) rfl rfl (by kernel_rfl) (by kernel_rfl) (by kernel_rfl) (fun _ _ _ h => h) (by rfl) ?hh4_10 (by assumption) ?_
      case hh4_10 => (intro wq hSw; (try dsimp only at hSw); go_simp; (try (with_reducible rfl)))
      go_frame
      refine wpAnyH_done (by kernel_rfl) ?_ _
      refine NoPanic.normal ?_
      go_wp2_with fail
      go_meet
      exact ⟨_, cs, rfl, rfl, Nat.le_refl _, hR4, HR3.out.kept hZ3 (by decide) hg4, hbx4⟩
  case rest =>
    obtain ⟨g1, c1, rfl, rfl, hg1, hG1, hR1, hb1⟩ := hcut
    obtain ⟨r1, r2⟩ := HRows.out _ hb1
    have HR1 := Lib.hid hR1
    have HG1 := Lib.hid hG1
    have HB1 := Lib.hid hb1
    have lt1 := hG1.lt
    clear hR1 hG1 hb1 HBs HBv HSW HNK hbx
    go_upto_region 3 with (first
      | (go_at_call 31; refine (HSg.out _ (Nat.le_trans (Nat.le_refl _) HB1.out.size)).mono ?_; rintro en w5 ⟨c2, rfl, hR5, hb5⟩; have HR5 := Lib.hid hR5; clear hR5)
      | (refine wpList_store_blk rfl 43 (.tmp 9) (.tmp 26) rfl w5.heap.size c2 rfl rfl 43 zeroSc (Blk.new w5 _ _) (by rw [HR5.out.one.1]; rfl) (by rw [HR5.out.one.1]; exact size_sg) HR5.out.one.2 ?_; intro w6 hG6 hg6 hs6))
    have hb56 : Below w5.heap.size w5 w6 := ((Below.refl _ _).alloc (Nat.le_refl _) _).grown hg6 (by simp) (fun j hj => by injection hj with hj; subst hj; exact Nat.le_refl _)
    have hb6 := hb5.trans (hb56.mono hb5.size)
    obtain ⟨r3, r4⟩ := HRows.out _ (HB1.out.trans (hb6.mono HB1.out.size))
    have HR16 := Lib.hid (HR1.out.below hb6)
    have HR26 := Lib.hid (HR5.out.below hb56)
    have HG16 := Lib.hid (HG1.out.below hb6 HG1.out.lt)
    have HG26 := Lib.hid hG6
    have hbw6 := hbW.trans ((HB1.out.trans (hb6.mono HB1.out.size)).mono hbW.size)
    clear hb5 hb56 hg6 hs6 hG6 HR1 HR5 HG1 HB1 hb6 lt1 r1 r2 HSg HRows
    obtain ⟨g2, hg2⟩ : ∃ g, g = w5.heap.size := ⟨_, rfl⟩
    rw [← hg2] at HG26 ⊢
    clear hg2
    try go_frame
    go_upto_region 4 with (first
      | (go_at_call 38; refine (HNil.out _).mono ?_; rintro en w7 ⟨rfl, hb7⟩)
      | (refine wpList_store_blk rfl 43 (.tmp 11) (.tmp 32) rfl w7.heap.size zeroSc rfl rfl 43 zeroSc (Blk.new w7 _ _) rfl size_sg (fun u hu => one_zs hu) ?_; intro w8 hG8 hg8 hs8))
    have hb78 : Below w7.heap.size w7 w8 := ((Below.refl _ _).alloc (Nat.le_refl _) _).grown hg8 (by simp) (fun j hj => by injection hj with hj; subst hj; exact Nat.le_refl _)
    have hb8 := hb7.trans (hb78.mono hb7.size)
    obtain ⟨t1, e1, v1, k1, _⟩ := HR16.out.below hb8
    obtain ⟨t2, e2, v2, k2, _⟩ := HR26.out.below hb8
    have y1 : rowAt w8 g1 0 23 = some t1.cells := by rw [← e1]; exact (HG16.out.below hb8 HG16.out.lt).row 23 (by rw [e1]; exact t1.size_cells)
    have y2 : rowAt w8 g2 0 23 = some t2.cells := by rw [← e2]; exact (HG26.out.below hb8 HG26.out.lt).row 23 (by rw [e2]; exact t2.size_cells)
    have HSm : Hid (Calls Try.prog 33 #[t1.val, t2.val] w8 (BoolPost w8 true)) := by
      have h := HSame.out t1 t2 w8 k1 k2
      rw [v1, v2, decide_eq_true rfl] at h
      exact h
    have hbw8 := hbw6.trans (hb8.mono hbw6.size)
    clear hb7 hb78 hb8 hg8 hs8 hG8 HR16 HR26 HG16 HG26 r3 r4 e1 e2 v1 v2 k1 k2 HSame hbw6 HNil
    try go_frame
    go_wp2_with (first
      | (go_at_call 33; refine HSm.out.mono ?_; rintro en w9 ⟨rfl, hb9⟩)
      | (go_at_call 34; refine (HAw.out _).mono ?_; rintro en w10 ⟨rfl, hb10⟩))
    go_ret
    exact ⟨rfl, hbw8.trans ((hb9.trans (hb10.mono hb9.size)).mono hbw8.size)⟩
end Go.Proofs.Ythmecidpjlaonaa
namespace Go.Proofs.Ythmecidpjlaonaa
open Go.RowKit
attribute [local go_sem ↓] Go.wp_at_zero Go.wp_at_succ loadNm loadVt loadSg loadEv
attribute [local go_sem] runNm runVt runSg runEv pickRow_some rowAt_drew rowAt_drewN

theorem umod1024 (leaf : Int) : ∃ n : Nat, n < 1024 ∧ (IntKind.u64.wrap leaf) % 1024 = (n : Int) ∧ (IntKind.u64.wrap leaf).tmod 1024 = (n : Int) := by
  have h0 : 0 ≤ IntKind.u64.wrap leaf := by rw [IntKind.wrap_u64]; omega
  obtain ⟨m, hm⟩ := Int.eq_ofNat_of_zero_le h0
  exact ⟨m % 1024, Nat.mod_lt _ (by omega), by rw [hm]; rfl, by rw [hm]; rfl⟩
/-- A leaf that is taken out of any number. -/
def LeafCut (n : Nat) (s : Value) : Prop := s = .int .i64 (n : Int)

set_option maxRecDepth 100000 in
set_option maxHeartbeats 4000000 in
theorem laccepts_bad (s : Nm) (leaf : Int) (v : Vt) (w : World) (hv : v.ok) (hy : ¬ ValidP v) : Calls Try.prog 15 #[s.val, .int .i64 leaf, v.val] w fun e w' => e = .returned (.bool true) ∧ Below w.heap.size w w' := by
  obtain ⟨W, hW⟩ : ∃ W, W = (w.alloc (.cells s.cells 39)).alloc (.cells v.cells 41) := ⟨_, rfl⟩
  have hbW : Below w.heap.size w W := by rw [hW]; exact ((Below.refl _ _).alloc (Nat.le_refl _) _).alloc (by simp) _
  have hBs : Blk W w.heap.size 39 s.cells := by rw [hW]; exact (Blk.new w _ _).alloc _
  have hBv : Blk W (w.heap.size + 1) 41 v.cells := by
    rw [hW]
    have := Blk.new (w.alloc (.cells s.cells 39)) 41 v.cells
    simpa using this
  obtain ⟨n, hn, hd, htm⟩ := umod1024 leaf
  have HSg := Lib.hid (fun V => sign_not s (n : Int) v V hv (.inl hy))
  have HVa : Hid (∀ V, Calls Try.prog 58 #[v.val] V fun e w' => e = .returned (.bool false) ∧ Below V.heap.size V w') := fun V => valid_no v V hv hy
  have HAw := Lib.hid awake8_any
  obtain ⟨p, hp⟩ : ∃ p, p = w.heap.size := ⟨_, rfl⟩
  obtain ⟨q, hq⟩ : ∃ q, q = w.heap.size + 1 := ⟨_, rfl⟩
  rw [← hp] at hBs
  rw [← hq] at hBv
  have HRows : Hid (∀ V, Below W.heap.size W V → rowAt V p 0 8 = some s.cells ∧ rowAt V q 0 22 = some v.cells) := fun V hV => ⟨(hBs.below hV hBs.lt).row 8 rfl, (hBv.below hV hBv.lt).row 22 rfl⟩
  obtain ⟨r1, r2⟩ := HRows.out _ (Below.refl _ _)
  have hbx : Below W.heap.size W W := Below.refl _ _
  have hwn : IntKind.i64.wrap (n : Int) = (n : Int) := by rw [IntKind.wrap_i64]; omega
  clear hBs hBv
  go_enter Try.func15, Try.ntmps15
  go_upto_region 1 with fail
  rw [← hW, ← hq, ← hp]
  clear hW hq hp
  go_upto_region 3 with (first
    | (go_at_call 31; refine (HSg.out _).mono ?_; rintro en w2 ⟨rfl, hb2⟩)
    | (refine wpList_store_blk rfl 43 (.tmp 7) (.tmp 21) rfl w2.heap.size zeroSc rfl rfl 43 zeroSc (Blk.new w2 _ _) rfl size_sg (fun u hu => one_zs hu) ?_; intro w3 hG3 hg3 hs3))
  have hb23 : Below w2.heap.size w2 w3 := ((Below.refl _ _).alloc (Nat.le_refl _) _).grown hg3 (by simp) (fun j hj => by injection hj with hj; subst hj; exact Nat.le_refl _)
  have hb3 := hb2.trans (hb23.mono hb2.size)
  obtain ⟨r3, r4⟩ := HRows.out _ hb3
  have HG3 := Lib.hid hG3
  have hbw3 := hbW.trans (hb3.mono hbW.size)
  obtain ⟨g, hg⟩ : ∃ g, g = w2.heap.size := ⟨_, rfl⟩
  rw [← hg] at HG3 ⊢
  clear hg hb2 hb23 hg3 hs3 hG3 r1 r2 hb3 r3
  try go_frame
  go_wp2_with (first
    | (go_at_call 58; refine (HVa.out _).mono ?_; rintro en w4 ⟨rfl, hb4⟩; have c22 : w4.cell? ⟨g, 22, none⟩ = some (.slice none 0 0) := (HG3.out.below hb4 HG3.out.lt).cell 22)
    | (go_at_call 34; refine (HAw.out _).mono ?_; rintro en w5 ⟨rfl, hb5⟩))
  go_ret
  exact ⟨rfl, hbw3.trans ((hb4.trans (hb5.mono hb4.size)).mono hbw3.size)⟩

/-- The vote with a short signature; the vote with a signature whose leaf is beyond the capacity. -/
def NewSg (R : World → Prop) (base : Nat) (v : Vt) (sig : List UInt8) (W : World) (s : Value) (wx : World) : Prop :=
  ∃ g A c, s = .pointer (some ⟨g, 0, none⟩) ∧ Blk wx g 43 (Sg.mk v sig A c).cells ∧ Rd wx wx.heap.size A (sig.map B) ∧ sig.length ≤ c ∧ c ≤ maxLen ∧ R wx ∧ Below base W wx

set_option maxRecDepth 100000 in
set_option maxHeartbeats 8000000 in
theorem laccepts_yes (s : Nm) (leaf : Int) (v : Vt) (w : World) (hv : v.ok) (hy : ValidP v) : Calls Try.prog 15 #[s.val, .int .i64 leaf, v.val] w fun e w' => e = .returned (.bool true) ∧ Below w.heap.size w w' := by
  obtain ⟨W, hW⟩ : ∃ W, W = (w.alloc (.cells s.cells 39)).alloc (.cells v.cells 41) := ⟨_, rfl⟩
  have hbW : Below w.heap.size w W := by rw [hW]; exact ((Below.refl _ _).alloc (Nat.le_refl _) _).alloc (by simp) _
  have hBs : Blk W w.heap.size 39 s.cells := by rw [hW]; exact (Blk.new w _ _).alloc _
  have hBv : Blk W (w.heap.size + 1) 41 v.cells := by
    rw [hW]
    have := Blk.new (w.alloc (.cells s.cells 39)) 41 v.cells
    simpa using this
  obtain ⟨n, hn, hd, htm⟩ := umod1024 leaf
  obtain ⟨sig, hsig⟩ : ∃ sig, sig = sigF s n (nameF v) := ⟨_, rfl⟩
  have HL : Hid (sig.length = 370) := by unfold Hid; rw [hsig]; exact sigF_len _ _ _
  have HSg : Hid (∀ V, Calls Try.prog 31 #[s.val, .int .i64 (n : Int), v.val] V (SgnG (SgG V.heap.size v sig) true V)) := fun V => by rw [hsig]; exact sign_yes s n v V hv hn hy
  have HVa : Hid (∀ V, Calls Try.prog 58 #[v.val] V fun e w' => e = .returned (.bool true) ∧ Below V.heap.size V w') := fun V => valid_yes v V hv hy
  obtain ⟨key, hkey⟩ : ∃ k, k = keyF s := ⟨_, rfl⟩
  have HPu : Hid (∀ V, Calls Try.prog 59 #[s.val, .int .i64 2] V (NmPost V key)) := fun V => by rw [hkey]; exact mpublic_any s V
  have hver : verS key v sig = true := by unfold verS; rw [decide_eq_true hy, hkey, hsig, ver_sign s n _ hn]; rfl
  have HSv : Hid (∀ (T : Sg) (b : Bool) (V : World), T.vote = v → verS key v T.sig = b → SgOk V V.heap.size T → SgCap T → Calls Try.prog 54 #[key.val, T.val] V (BoolPost V b)) := fun T b V h1 h2 h3 h4 => by
    have := sver_any key T V h3 h4
    rw [h1, h2] at this; exact this
  have hshort : verS key v (sig.take 369) = false := by unfold verS; rw [ver_short _ _ _ (by rw [List.length_take, HL.out]; omega)]; simp
  have hfar : verS key v (255 :: sig.drop 1) = false := by unfold verS; rw [ver_far]; simp
  have HVer := Lib.hid hver
  have HShort := Lib.hid hshort
  have HFar := Lib.hid hfar
  have HOk := Lib.hid hv
  have HAw := Lib.hid awake8_any
  have hneq : ∀ V, (binOp .neq 41 (.agg v.cells) (.agg v.cells)).run Try.prog V = .ok (.bool false) V := fun V => by
    have e0 := eqVt v v V
    rw [decide_eq_true rfl] at e0
    have e1 := e0
    first | (go_simp; done) | (simp [binOp, Op.equal]; exact e1)
  obtain ⟨p, hp⟩ : ∃ p, p = w.heap.size := ⟨_, rfl⟩
  obtain ⟨q, hq⟩ : ∃ q, q = w.heap.size + 1 := ⟨_, rfl⟩
  rw [← hp] at hBs
  rw [← hq] at hBv
  have HRows : Hid (∀ V, Below W.heap.size W V → rowAt V p 0 8 = some s.cells ∧ rowAt V q 0 22 = some v.cells) := fun V hV => ⟨(hBs.below hV hBs.lt).row 8 rfl, (hBv.below hV hBv.lt).row 22 rfl⟩
  obtain ⟨r1, r2⟩ := HRows.out _ (Below.refl _ _)
  have hwn : IntKind.i64.wrap (n : Int) = (n : Int) := by rw [IntKind.wrap_i64]; omega
  clear hBs hBv hsig hkey hver hshort hfar
  go_enter Try.func15, Try.ntmps15
  go_upto_region 1 with fail
  rw [← hW, ← hq, ← hp]
  clear hW hq hp
  go_upto_region 3 with (first
    | (go_at_call 31; refine (HSg.out _).mono ?_; rintro en w2 ⟨c1, rfl, ⟨A1, k1, rfl, ho1⟩, hb2⟩; have HO1 := Lib.hid ho1; clear ho1)
    | (refine wpList_store_blk rfl 43 (.tmp 7) (.tmp 21) rfl w2.heap.size (Sg.mk v sig A1 k1).cells rfl rfl 43 zeroSc (Blk.new w2 _ _) (by rw [Sg.size_cells]; rfl) (by rw [Sg.size_cells]; exact size_sg) (fun u hu => one_sg _ hu) ?_; intro w3 hG3 hg3 hs3))
  have hb23 : Below w2.heap.size w2 w3 := ((Below.refl _ _).alloc (Nat.le_refl _) _).grown hg3 (by simp) (fun j hj => by injection hj with hj; subst hj; exact Nat.le_refl _)
  have hb3 := hb2.trans (hb23.mono hb2.size)
  have HO3 := Lib.hid (own_below HO1.out hb23 (Nat.le_refl _))
  obtain ⟨b, o, hA1, hblt⟩ : ∃ b o, A1 = some ⟨b, o, none⟩ ∧ b < w3.heap.size := by
    obtain ⟨b, o, e, hb, _⟩ := (Rd.of_own HO3.out).cells (by intro e; have := HL.out; rw [List.map_eq_nil_iff] at e; rw [e] at this; simp at this)
    exact ⟨b, o, e, hb⟩
  subst hA1
  have hcap : 370 ≤ k1 ∧ k1 ≤ maxLen := by
    rcases HO3.out.2 with ⟨hv, _⟩ | ⟨g, cap, cur, hv, _, _, h1, h2, _⟩
    · cases hv
    · have := HL.out; injection hv with _ _ hc; omega
  obtain ⟨T, hT⟩ : ∃ T, T = Sg.mk v sig (some ⟨b, o, none⟩) k1 := ⟨_, rfl⟩
  rw [← hT] at hG3
  have HRd : Hid (Rd w3 w3.heap.size (some ⟨b, o, none⟩) (sig.map B)) := Rd.of_own HO3.out
  have HTv : Hid (T.vote = v ∧ T.sig = sig ∧ SgCap T ∧ T.cells[22]? = some (.slice (some ⟨b, o, none⟩) 370 k1)) := by
    unfold Hid
    rw [hT]
    refine ⟨rfl, rfl, ⟨by show sig.length ≤ k1; rw [HL.out]; exact hcap.1, hcap.2⟩, ?_⟩
    rw [Sg.cell_sig, HL.out]
  have HTo : Hid (∀ V, Below w3.heap.size w3 V → SgOk V V.heap.size T) := fun V hV => by
    rw [hT]
    exact ⟨HOk.out, (HRd.out.below hV).more hV.size, by show sig.length ≤ _; rw [HL.out]; omega⟩
  obtain ⟨r3, r4⟩ := HRows.out _ hb3
  have HG3 := Lib.hid hG3
  have HB3 := Lib.hid (hbW.trans (hb3.mono hbW.size))
  have HRo3 : Hid (∀ V, Below w3.heap.size w3 V → rowAt V p 0 8 = some s.cells ∧ rowAt V q 0 22 = some v.cells) := fun V hV => HRows.out V (hb3.trans (hV.mono hb3.size))
  obtain ⟨g, hg⟩ : ∃ g, g = w2.heap.size := ⟨_, rfl⟩
  rw [← hg] at HG3 ⊢
  clear hg hb2 hb23 hg3 hs3 hG3 r1 r2 hb3 HO1 HO3 HRows hbW
  rw [← hT]
  have HTeq := Lib.hid hT
  clear hT
  try go_frame
  have HCell : Hid (∀ V, Below w3.heap.size w3 V → rowAt V g 0 22 = some v.cells ∧ V.cell? ⟨g, 22, none⟩ = some (.slice (some ⟨b, o, none⟩) 370 k1) ∧ rowAt V g 0 23 = some T.cells) := fun V hV => by
    have h1 := HG3.out.below hV HG3.out.lt
    refine ⟨?_, (h1.cell 22).trans HTv.out.2.2.2, h1.row 23 T.size_cells⟩
    have := T.row_vote h1
    rw [HTv.out.1] at this; exact this
  go_upto_region 6 with (first
    | (go_at_call 58; refine (HVa.out _).mono ?_; rintro en w4 ⟨rfl, hb4⟩; obtain ⟨r5, r6⟩ := HRo3.out _ hb4)
    | (go_at_call 59; refine (HPu.out _).mono ?_; rintro en w5 ⟨rfl, hb5⟩; have hb35 := hb4.trans (hb5.mono hb4.size))
    | (refine wpList_store_blk rfl 39 (.tmp 9) (.tmp 38) rfl w5.heap.size key.cells rfl rfl 39 zero8 (Blk.new w5 _ _) rfl size_name (fun u hu => one_nm key hu) ?_; intro w6 hK6 hg6 hs6))
  have hb56 : Below w5.heap.size w5 w6 := ((Below.refl _ _).alloc (Nat.le_refl _) _).grown hg6 (by simp) (fun j hj => by injection hj with hj; subst hj; exact Nat.le_refl _)
  have hb36 := hb35.trans (hb56.mono hb35.size)
  obtain ⟨gk, hgk⟩ : ∃ g, g = w5.heap.size := ⟨_, rfl⟩
  rw [← hgk] at hK6 ⊢
  have HK6 := Lib.hid hK6
  obtain ⟨_, r8⟩ := HRo3.out _ hb36
  obtain ⟨y1, y2, y3⟩ := HCell.out _ hb36
  have x6 : rowAt w6 gk 0 8 = some key.cells := HK6.out.row 8 rfl
  clear hgk hb4 hb5 hb35 hb56 hg6 hs6 hK6 r3 r4 r5 r6
  try go_frame
  have HV6 := Lib.hid (HSv.out T true w6 HTv.out.1 (by rw [HTv.out.2.1]; exact HVer.out) (HTo.out _ hb36) HTv.out.2.2.1)
  go_upto_region 8 with (go_at_call 54; refine HV6.out.mono ?_; rintro en w7 ⟨rfl, hb7⟩; have hb37 := hb36.trans (hb7.mono hb36.size); obtain ⟨z1, z2, z3⟩ := HCell.out _ hb37)
  have HK7 := Lib.hid (HK6.out.below hb7 HK6.out.lt)
  clear HV6 hb7 hb36 HK6 r8 y1 y2 y3 x6 z1 z2 z3 hneq
  try go_frame
  obtain ⟨T2, hT2⟩ : ∃ X, X = (Sg.mk v (sig.take 369) (some ⟨b, o, none⟩) k1).cells := ⟨_, rfl⟩
  have hl369 : (sig.take 369).length = 369 := by rw [List.length_take, HL.out]; rfl
  have HT2 : Hid (T2.size = 23 ∧ ∀ u ∈ T2.toList, u.oneCell' = true) := by unfold Hid; rw [hT2]; exact ⟨Sg.size_cells _, fun u hu => one_sg _ hu⟩
  have HB2 : Hid (∀ {o' : Oper} {c' : Act} (s' t' : Operand) (_ : o'.op = .build 43 #[(0, s'), (1, t')]) (_ : c'.eval s' = .agg v.cells) (_ : c'.eval t' = .slice (some ⟨b, o, none⟩) 369 k1) (V : World), (execOp c'.eval o').run Try.prog V = .ok (.value (.agg T2)) V) := fun s' t' h1 h2 h3 V => by rw [hT2]; exact run_sgB v (sig.take 369) _ k1 s' t' h1 h2 (by rw [hl369]; exact h3) V
  have HT2e := Lib.hid hT2
  clear hT2
  have hS : ∀ V, Below w7.heap.size w7 V → rowAt V q 0 22 = some v.cells ∧ V.cell? ⟨g, 22, none⟩ = some (.slice (some ⟨b, o, none⟩) 370 k1) := fun V hV => ⟨(HRo3.out _ (hb37.trans (hV.mono hb37.size))).2, (HCell.out _ (hb37.trans (hV.mono hb37.size))).2.1⟩
  have HS := Lib.hid hS
  have i1 : (369 : Int) ≤ (k1 : Int) := by omega
  have i2 : ¬ k1 = 1 := by omega
  have hbx : Below w7.heap.size w7 w7 := Below.refl _ _
  clear hS
  go_cut [10] (fun sv wx => NewSg (fun _ => True) w7.heap.size v (sig.take 369) w7 sv wx)
  case first =>
    refine wp_region_noPanic ?_
    refine wp_region_held_drew (S := fun w' => rowAt w' q 0 22 = some v.cells ∧ w'.cell? ⟨g, 22, none⟩ = some (.slice (some ⟨b, o, none⟩) 370 k1)) (by kernel_rfl) (HS.out _ hbx.drew) (fun hHeld => ?_)
    refine wpAnyH_takeD (some 59) (i := 0) (v := ?vh1_0) rfl rfl (by kernel_rfl) (by kernel_rfl) (by kernel_rfl) (fun _ _ _ h => h) (by rfl) ?hh1_0 (by assumption) ?_
    case hh1_0 => (intro wq hSw; (try dsimp only at hSw); go_simp; (try (with_reducible rfl)))
    go_frame
    refine wpAnyH_takeD (some 60) (i := 1) (v := ?vh1_1) rfl rfl (by kernel_rfl) (by kernel_rfl) (by kernel_rfl) (fun _ _ _ h => h) (by rfl) ?hh1_1 (by assumption) ?_
    case hh1_1 => (intro wq hSw; (try dsimp only at hSw); go_simp; (try (with_reducible rfl)))
    go_frame
    refine wpAnyH_takeD (some 61) (i := 2) (v := ?vh1_2) rfl rfl (by kernel_rfl) (by kernel_rfl) (by kernel_rfl) (fun _ _ _ h => h) (by rfl) ?hh1_2 (by assumption) ?_
    case hh1_2 => (intro wq hSw; (try dsimp only at hSw); go_simp; (try (with_reducible rfl)))
    go_frame
    refine wpAnyH_takeD (some 62) (i := 3) (v := ?vh1_3) rfl rfl (by kernel_rfl) (by kernel_rfl) (by kernel_rfl) (fun _ _ _ h => h) (by rfl) ?hh1_3 (by assumption) ?_
    case hh1_3 => (intro wq hSw; (try dsimp only at hSw); go_simp; (try (with_reducible rfl)))
    go_frame
    refine wpAnyH_takeD (some 63) (i := 4) (v := (.agg T2)) rfl rfl (by kernel_rfl) (by kernel_rfl) (by kernel_rfl) (fun _ _ _ h => h) (by rfl) (fun wq _ => HB2.out (.tmp 59) (.tmp 62) rfl rfl rfl _) (by assumption) ?_
    go_frame
    refine wpAnyH_ready (rs := [5]) (by kernel_rfl) (by simp) ?_
    refine AllReadyH.cons rfl (fun K hK => ?_) AllReadyH.nil
    go_simp
    refine hK.out _ _ (HS.out _ (hbx.alloc (Nat.le_refl _) _).drew) (fun hHeld => ?_)
    clear hK K
    try go_frame
    refine wpAnyH_ready (rs := [6]) (by kernel_rfl) (by simp) ?_
    refine AllReadyH.cons rfl (fun K hK => ?_) AllReadyH.nil
    rw [if_pos (by rfl)]
    refine wp_store_blk 43 (.tmp 10) (.tmp 63) (by rfl) w7.heap.size T2 (by rfl) (by rfl) 43 zeroSc (Blk.new w7 _ _).drew (by rw [HT2.out.1]; rfl) (by rw [HT2.out.1]; exact size_sg) HT2.out.2 (by rfl) ?_; intro w8 hG8 hg8 hs8; have hb8 := (hbx.alloc (Nat.le_refl _) (.cells zeroSc 43)).drew.grown hg8 (by simp) (fun j hj => by injection hj with hj; subst hj; exact Nat.le_refl _)
    refine hK.out _ _ (HS.out _ hb8) (fun hHeld => ?_)
    clear hK K
    try go_frame
    refine wpAnyH_done (by kernel_rfl) ?_ _
    refine NoPanic.normal ?_
    go_wp2_with fail
    go_meet
    refine ⟨w7.heap.size, some ⟨b, o, none⟩, k1, rfl, by rw [← HT2e.out]; exact hG8, ?_, by rw [hl369]; omega, hcap.2, trivial, hb8⟩
    rw [List.map_take]
    exact ((HRd.out.below (hb37.trans (hb8.mono hb37.size))).more (hb37.trans (hb8.mono hb37.size)).size).take 369
  case rest =>
    obtain ⟨g2, A2, k2, rfl, hG2, hr2, hc2, hm2, _, hb8⟩ := hcut
    have HG2 := Lib.hid hG2
    have HR2 := Lib.hid hr2
    have HS2 : Hid (∀ V, Below wc.heap.size wc V → rowAt V q 0 22 = some v.cells ∧ V.cell? ⟨g, 22, none⟩ = some (.slice (some ⟨b, o, none⟩) 370 k1)) := fun V hV => HS.out V (hb8.trans (hV.mono hb8.size))
    have hb38 := hb37.trans (hb8.mono hb37.size)
    have HRd8 : Hid (∀ V, Below wc.heap.size wc V → Rd V V.heap.size (some ⟨b, o + 1, none⟩) ((sig.drop 1).map B)) := fun V hV => by
      have h1 := ((HRd.out.below (hb38.trans (hV.mono hb38.size))).more (hb38.trans (hV.mono hb38.size)).size).cut 1 371 (by rw [List.length_map, HL.out]; omega)
      rw [if_neg (by omega), ← List.map_drop] at h1
      exact h1
    have hl1 : (sig.drop 1).length = 369 := by rw [List.length_drop, HL.out]
    have HL1 := Lib.hid hl1
    have HBk : Hid (∀ {o' : Oper} {c' : Act} (s' t' : Operand) (A : Option Addr) (c : Nat) (_ : o'.op = .build 43 #[(0, s'), (1, t')]) (_ : c'.eval s' = .agg v.cells) (_ : c'.eval t' = .slice A 370 c) (V : World) (X : Array Value) (_ : X = (Sg.mk v (255 :: sig.drop 1) A c).cells), (execOp c'.eval o').run Try.prog V = .ok (.value (.agg X)) V) := fun s' t' A c h1 h2 h3 V X hX => by rw [hX]; exact run_sgB v (255 :: sig.drop 1) A c s' t' h1 h2 (by rw [List.length_cons, HL1.out]; exact h3) V
    have hx0 : Below wc.heap.size wc wc := Below.refl _ _
    have i3 : (1 : Int) ≤ 370 := by omega
    have i4 : (370 : Int) ≤ (k1 : Int) := by omega
    clear hl1 hG2 hr2 hbx HS HB2 HT2
    try go_frame
    go_upto_region 9 with fail
    go_cut [11] (fun sv wx => NewSg (fun _ => True) wc.heap.size v (255 :: sig.drop 1) wc sv wx)
    case first =>
      refine wp_region_noPanic ?_
      refine wp_region_held_drew (S := fun w' => rowAt w' q 0 22 = some v.cells ∧ w'.cell? ⟨g, 22, none⟩ = some (.slice (some ⟨b, o, none⟩) 370 k1)) (by kernel_rfl) (HS2.out _ hx0.drew) (fun hHeld => ?_)
      refine wpAnyH_takeD (some 64) (i := 0) (v := ?vh2_0) rfl rfl (by kernel_rfl) (by kernel_rfl) (by kernel_rfl) (fun _ _ _ h => h) (by rfl) ?hh2_0 (by assumption) ?_
      case hh2_0 => (intro wq hSw; (try dsimp only at hSw); go_simp; (try (with_reducible rfl)))
      go_frame
      refine wpAnyH_takeD (some 66) (i := 2) (v := ?vh2_2) rfl rfl (by kernel_rfl) (by kernel_rfl) (by kernel_rfl) (fun _ _ _ h => h) (by rfl) ?hh2_2 (by assumption) ?_
      case hh2_2 => (intro wq hSw; (try dsimp only at hSw); go_simp; (try (with_reducible rfl)))
      go_frame
      refine wpAnyH_takeD (some 67) (i := 3) (v := ?vh2_3) rfl rfl (by kernel_rfl) (by kernel_rfl) (by kernel_rfl) (fun _ _ _ h => h) (by rfl) ?hh2_3 (by assumption) ?_
      case hh2_3 => (intro wq hSw; (try dsimp only at hSw); go_simp; (try (with_reducible rfl)))
      go_frame
      refine wpAnyH_takeD (some 68) (i := 4) (v := ?vh2_4) rfl rfl (by kernel_rfl) (by kernel_rfl) (by kernel_rfl) (fun _ _ _ h => h) (by rfl) ?hh2_4 (by assumption) ?_
      case hh2_4 => (intro wq hSw; (try dsimp only at hSw); go_simp; (try (with_reducible rfl)))
      go_frame
      refine wpAnyH_ready (rs := [1, 7]) (by kernel_rfl) (by simp) ?_
      refine AllReadyH.cons rfl (fun K hK => ?_) (AllReadyH.cons rfl (fun K hK => ?_) AllReadyH.nil)
      · go_simp
        have hx1 := (hx0.alloc hx0.size (.cells #[B 255] 5)).drew
        have hB1 : Blk (wc.alloc (.cells #[B 255] 5)).drew wc.heap.size 5 #[B 255] := (Blk.new wc _ _).drew
        refine hK.out _ _ (HS2.out _ hx1) (fun hHeld => ?_)
        clear hK K
        try go_frame
        refine wpAnyH_ready (rs := [5, 7]) (by kernel_rfl) (by simp) ?_
        refine AllReadyH.cons rfl (fun K hK => ?_) (AllReadyH.cons rfl (fun K hK => ?_) AllReadyH.nil)
        · rw [if_pos (by rfl)]
          have hOb : World.ownsRow _ wc.heap.size 5 1 (.slice (some ⟨wc.heap.size, 0, none⟩) 1 1) 1 [B 255] := ⟨rfl, .inr ⟨wc.heap.size, 1, _, rfl, Nat.le_refl _, hB1, by omega, by unfold maxLen; omega, rfl, rfl⟩⟩
          refine wp_appD (some 69) rfl (.tmp 65) (.tmp 68) _ (by rfl) wc.heap.size 5 (.int .u8 0) 1 1 Try.underlying23 info_byte rfl (by decide) _ 1 [B 255] (by rfl) hOb _ (some ⟨b, o + 1, none⟩) 369 (k1 - 1) ((sig.drop 1).map B) (by rfl) (by rw [List.length_map, HL1.out]) (HRd8.out _ hx1) (fun u hu => bytes_one hu) (by omega) (by unfold maxLen; omega) hx1.size ?_; intro v5 w5 hown5 hg5 hat5; obtain ⟨A5, c5, hv5⟩ := own_form hown5; subst hv5; have hx5 := hx1.grown hg5 hx1.size (fun j hj => (hOb.lt _ hj).1); have hown5' : w5.ownsRow wc.heap.size 5 1 (.slice A5 370 c5) 370 ((255 :: sig.drop 1).map B) := (by simpa using hown5)
          refine hK.out _ _ (HS2.out _ hx5) (fun hHeld => ?_)
          clear hK K
          try go_frame
          obtain ⟨X, hX⟩ : ∃ X, X = (Sg.mk v (255 :: sig.drop 1) A5 c5).cells := ⟨_, rfl⟩
          have HX : Hid (X.size = 23 ∧ ∀ u ∈ X.toList, u.oneCell' = true) := by unfold Hid; rw [hX]; exact ⟨Sg.size_cells _, fun u hu => one_sg _ hu⟩
          have HE := Lib.hid hX
          clear hX
          refine wpAnyH_takeD (some 70) (i := 6) (v := (.agg X)) rfl rfl (by kernel_rfl) (by kernel_rfl) (by kernel_rfl) (fun _ _ _ h => h) (by rfl) (fun wq _ => HBk.out (.tmp 64) (.tmp 69) A5 c5 rfl rfl rfl _ _ HE.out) (by assumption) ?_
          go_frame
          refine wpAnyH_ready (rs := [7]) (by kernel_rfl) (by simp) ?_
          refine AllReadyH.cons rfl (fun K hK => ?_) AllReadyH.nil
          go_simp
          have hx6 := hx5.alloc hx5.size (.cells zeroSc 43)
          have hZ6 : Blk (w5.alloc (.cells zeroSc 43)) w5.heap.size 43 zeroSc := Blk.new w5 _ _
          have ho6 := hown5'.alloc (.cells zeroSc 43)
          refine hK.out _ _ (HS2.out _ hx6) (fun hHeld => ?_)
          clear hK K
          try go_frame
          refine wpAnyH_ready (rs := [8]) (by kernel_rfl) (by simp) ?_
          refine AllReadyH.cons rfl (fun K hK => ?_) AllReadyH.nil
          rw [if_pos (by rfl)]
          refine wp_store_blk 43 (.tmp 11) (.tmp 70) (by rfl) (w5.heap.size) X (by rfl) (by rfl) 43 zeroSc hZ6 (by rw [HX.out.1]; rfl) (by rw [HX.out.1]; exact size_sg) HX.out.2 (by rfl) ?_; intro w8 hG8 hg8 hs8; have hb8' := hx6.grown hg8 hx6.size (fun j hj => by injection hj with hj; subst hj; exact hx5.size); have ho8 := ho6.kept hg8 (.inr fun e => own_ne ho6 hZ6 (by decide) e.symm)
          refine hK.out _ _ (HS2.out _ hb8') (fun hHeld => ?_)
          clear hK K
          try go_frame
          refine wpAnyH_done (by kernel_rfl) ?_ _
          refine NoPanic.normal ?_
          go_wp2_with fail
          go_meet
          have hcap5 : 370 ≤ c5 ∧ c5 ≤ maxLen := by
            rcases ho8.2 with ⟨hv, h0⟩ | ⟨g, cap, cur, hv, _, _, h1, h2, _⟩
            · omega
            · injection hv with _ _ hc; omega
          refine ⟨_, A5, c5, rfl, by rw [← HE.out]; exact hG8, ?_, by rw [List.length_cons, HL1.out]; exact hcap5.1, hcap5.2, trivial, hb8'⟩
          have hrr := Rd.of_own ho8
          simpa using hrr
        · go_simp
          have hx2 := ((hx0.alloc hx0.size (.cells #[B 255] 5)).alloc (hx0.alloc hx0.size (.cells #[B 255] 5)).size (.cells zeroSc 43)).drew
          have hB2 : Blk ((wc.alloc (.cells #[B 255] 5)).alloc (.cells zeroSc 43)).drew wc.heap.size 5 #[B 255] := ((Blk.new wc _ _).alloc _).drew
          have hZ2 : Blk ((wc.alloc (.cells #[B 255] 5)).alloc (.cells zeroSc 43)).drew (wc.heap.size + 1) 43 zeroSc := by
            have h := (Blk.new (wc.alloc (.cells #[B 255] 5)) 43 zeroSc).drew
            simpa using h
          refine hK.out _ _ (HS2.out _ hx2) (fun hHeld => ?_)
          clear hK K
          try go_frame
          refine wpAnyH_ready (rs := [5]) (by kernel_rfl) (by simp) ?_
          refine AllReadyH.cons rfl (fun K hK => ?_) AllReadyH.nil
          rw [if_pos (by rfl)]
          have hOb : World.ownsRow _ wc.heap.size 5 1 (.slice (some ⟨wc.heap.size, 0, none⟩) 1 1) 1 [B 255] := ⟨rfl, .inr ⟨wc.heap.size, 1, _, rfl, Nat.le_refl _, hB2, by omega, by unfold maxLen; omega, rfl, rfl⟩⟩
          refine wp_appD (some 69) rfl (.tmp 65) (.tmp 68) _ (by rfl) wc.heap.size 5 (.int .u8 0) 1 1 Try.underlying23 info_byte rfl (by decide) _ 1 [B 255] (by rfl) hOb _ (some ⟨b, o + 1, none⟩) 369 (k1 - 1) ((sig.drop 1).map B) (by rfl) (by rw [List.length_map, HL1.out]) (HRd8.out _ hx2) (fun u hu => bytes_one hu) (by omega) (by unfold maxLen; omega) hx2.size ?_; intro v5 w5 hown5 hg5 hat5; obtain ⟨A5, c5, hv5⟩ := own_form hown5; subst hv5; have hx5 := hx2.grown hg5 hx2.size (fun j hj => (hOb.lt _ hj).1); have hZ5 := hZ2.kept hg5 (own_ne hOb hZ2 (by decide)); have hown5' : w5.ownsRow wc.heap.size 5 1 (.slice A5 370 c5) 370 ((255 :: sig.drop 1).map B) := (by simpa using hown5)
          refine hK.out _ _ (HS2.out _ hx5) (fun hHeld => ?_)
          clear hK K
          try go_frame
          obtain ⟨X, hX⟩ : ∃ X, X = (Sg.mk v (255 :: sig.drop 1) A5 c5).cells := ⟨_, rfl⟩
          have HX : Hid (X.size = 23 ∧ ∀ u ∈ X.toList, u.oneCell' = true) := by unfold Hid; rw [hX]; exact ⟨Sg.size_cells _, fun u hu => one_sg _ hu⟩
          have HE := Lib.hid hX
          clear hX
          refine wpAnyH_takeD (some 70) (i := 6) (v := (.agg X)) rfl rfl (by kernel_rfl) (by kernel_rfl) (by kernel_rfl) (fun _ _ _ h => h) (by rfl) (fun wq _ => HBk.out (.tmp 64) (.tmp 69) A5 c5 rfl rfl rfl _ _ HE.out) (by assumption) ?_
          go_frame
          refine wpAnyH_ready (rs := [8]) (by kernel_rfl) (by simp) ?_
          refine AllReadyH.cons rfl (fun K hK => ?_) AllReadyH.nil
          rw [if_pos (by rfl)]
          refine wp_store_blk 43 (.tmp 11) (.tmp 70) (by rfl) (wc.heap.size + 1) X (by rfl) (by rfl) 43 zeroSc hZ5 (by rw [HX.out.1]; rfl) (by rw [HX.out.1]; exact size_sg) HX.out.2 (by rfl) ?_; intro w8 hG8 hg8 hs8; have hb8' := hx5.grown hg8 hx5.size (fun j hj => by injection hj with hj; subst hj; exact Nat.le_succ _); have ho8 := hown5'.kept hg8 (.inr fun e => own_ne hown5' hZ5 (by decide) e.symm)
          refine hK.out _ _ (HS2.out _ hb8') (fun hHeld => ?_)
          clear hK K
          try go_frame
          refine wpAnyH_done (by kernel_rfl) ?_ _
          refine NoPanic.normal ?_
          go_wp2_with fail
          go_meet
          have hcap5 : 370 ≤ c5 ∧ c5 ≤ maxLen := by
            rcases ho8.2 with ⟨hv, h0⟩ | ⟨g, cap, cur, hv, _, _, h1, h2, _⟩
            · omega
            · injection hv with _ _ hc; omega
          refine ⟨_, A5, c5, rfl, by rw [← HE.out]; exact hG8, ?_, by rw [List.length_cons, HL1.out]; exact hcap5.1, hcap5.2, trivial, hb8'⟩
          have hrr := Rd.of_own ho8
          simpa using hrr
      · go_simp
        have hx1 := (hx0.alloc hx0.size (.cells zeroSc 43)).drew
        refine hK.out _ _ (HS2.out _ hx1) (fun hHeld => ?_)
        clear hK K
        try go_frame
        refine wpAnyH_ready (rs := [1]) (by kernel_rfl) (by simp) ?_
        refine AllReadyH.cons rfl (fun K hK => ?_) AllReadyH.nil
        go_simp
        have hx2 := ((hx0.alloc hx0.size (.cells zeroSc 43)).alloc (hx0.alloc hx0.size (.cells zeroSc 43)).size (.cells #[B 255] 5)).drew
        have hZ2 : Blk ((wc.alloc (.cells zeroSc 43)).alloc (.cells #[B 255] 5)).drew wc.heap.size 43 zeroSc := ((Blk.new wc _ _).alloc _).drew
        have hB2 : Blk ((wc.alloc (.cells zeroSc 43)).alloc (.cells #[B 255] 5)).drew (wc.heap.size + 1) 5 #[B 255] := by
          have h := (Blk.new (wc.alloc (.cells zeroSc 43)) 5 #[B 255]).drew
          simpa using h
        refine hK.out _ _ (HS2.out _ hx2) (fun hHeld => ?_)
        clear hK K
        try go_frame
        refine wpAnyH_ready (rs := [5]) (by kernel_rfl) (by simp) ?_
        refine AllReadyH.cons rfl (fun K hK => ?_) AllReadyH.nil
        rw [if_pos (by rfl)]
        have hOb : World.ownsRow _ wc.heap.size 5 1 (.slice (some ⟨wc.heap.size + 1, 0, none⟩) 1 1) 1 [B 255] := ⟨rfl, .inr ⟨wc.heap.size + 1, 1, _, rfl, Nat.le_succ _, hB2, by omega, by unfold maxLen; omega, rfl, rfl⟩⟩
        refine wp_appD (some 69) rfl (.tmp 65) (.tmp 68) _ (by rfl) wc.heap.size 5 (.int .u8 0) 1 1 Try.underlying23 info_byte rfl (by decide) _ 1 [B 255] (by rfl) hOb _ (some ⟨b, o + 1, none⟩) 369 (k1 - 1) ((sig.drop 1).map B) (by rfl) (by rw [List.length_map, HL1.out]) (HRd8.out _ hx2) (fun u hu => bytes_one hu) (by omega) (by unfold maxLen; omega) hx2.size ?_; intro v5 w5 hown5 hg5 hat5; obtain ⟨A5, c5, hv5⟩ := own_form hown5; subst hv5; have hx5 := hx2.grown hg5 hx2.size (fun j hj => (hOb.lt _ hj).1); have hZ5 := hZ2.kept hg5 (own_ne hOb hZ2 (by decide)); have hown5' : w5.ownsRow wc.heap.size 5 1 (.slice A5 370 c5) 370 ((255 :: sig.drop 1).map B) := (by simpa using hown5)
        refine hK.out _ _ (HS2.out _ hx5) (fun hHeld => ?_)
        clear hK K
        try go_frame
        obtain ⟨X, hX⟩ : ∃ X, X = (Sg.mk v (255 :: sig.drop 1) A5 c5).cells := ⟨_, rfl⟩
        have HX : Hid (X.size = 23 ∧ ∀ u ∈ X.toList, u.oneCell' = true) := by unfold Hid; rw [hX]; exact ⟨Sg.size_cells _, fun u hu => one_sg _ hu⟩
        have HE := Lib.hid hX
        clear hX
        refine wpAnyH_takeD (some 70) (i := 6) (v := (.agg X)) rfl rfl (by kernel_rfl) (by kernel_rfl) (by kernel_rfl) (fun _ _ _ h => h) (by rfl) (fun wq _ => HBk.out (.tmp 64) (.tmp 69) A5 c5 rfl rfl rfl _ _ HE.out) (by assumption) ?_
        go_frame
        refine wpAnyH_ready (rs := [8]) (by kernel_rfl) (by simp) ?_
        refine AllReadyH.cons rfl (fun K hK => ?_) AllReadyH.nil
        rw [if_pos (by rfl)]
        refine wp_store_blk 43 (.tmp 11) (.tmp 70) (by rfl) (wc.heap.size) X (by rfl) (by rfl) 43 zeroSc hZ5 (by rw [HX.out.1]; rfl) (by rw [HX.out.1]; exact size_sg) HX.out.2 (by rfl) ?_; intro w8 hG8 hg8 hs8; have hb8' := hx5.grown hg8 hx5.size (fun j hj => by injection hj with hj; subst hj; exact Nat.le_refl _); have ho8 := hown5'.kept hg8 (.inr fun e => own_ne hown5' hZ5 (by decide) e.symm)
        refine hK.out _ _ (HS2.out _ hb8') (fun hHeld => ?_)
        clear hK K
        try go_frame
        refine wpAnyH_done (by kernel_rfl) ?_ _
        refine NoPanic.normal ?_
        go_wp2_with fail
        go_meet
        have hcap5 : 370 ≤ c5 ∧ c5 ≤ maxLen := by
          rcases ho8.2 with ⟨hv, h0⟩ | ⟨g, cap, cur, hv, _, _, h1, h2, _⟩
          · omega
          · injection hv with _ _ hc; omega
        refine ⟨_, A5, c5, rfl, by rw [← HE.out]; exact hG8, ?_, by rw [List.length_cons, HL1.out]; exact hcap5.1, hcap5.2, trivial, hb8'⟩
        have hrr := Rd.of_own ho8
        simpa using hrr
    case rest =>
      obtain ⟨g3, A3, k3, rfl, hG3, hr3, hc3, hm3, _, hb9⟩ := hcut
      have hb79 := hb8.trans (hb9.mono hb8.size)
      obtain ⟨U2, hU2⟩ : ∃ U, U = Sg.mk v (sig.take 369) A2 k2 := ⟨_, rfl⟩
      obtain ⟨U3, hU3⟩ : ∃ U, U = Sg.mk v (255 :: sig.drop 1) A3 k3 := ⟨_, rfl⟩
      have HF : Hid (∀ V, Below wc.heap.size wc V → rowAt V gk 0 8 = some key.cells ∧ rowAt V g2 0 23 = some U2.cells ∧ rowAt V g3 0 23 = some U3.cells) := fun V hV => by
        rw [hU2, hU3]
        exact ⟨(HK7.out.below (hb79.trans (hV.mono hb79.size)) HK7.out.lt).row 8 rfl, (HG2.out.below (hb9.trans (hV.mono hb9.size)) HG2.out.lt).row 23 (Sg.size_cells _), (hG3.below hV hG3.lt).row 23 (Sg.size_cells _)⟩
      have HV2 : Hid (∀ V, Below wc.heap.size wc V → Calls Try.prog 54 #[key.val, U2.val] V (BoolPost V false)) := fun V hV => by
        have hb := hb9.trans (hV.mono hb9.size)
        refine HSv.out U2 false V (by rw [hU2]) (by rw [hU2]; exact HShort.out) ?_ ?_ <;> rw [hU2]
        · exact ⟨HOk.out, (HR2.out.below hb).more hb.size, by show (sig.take 369).length ≤ _; rw [List.length_take, HL.out]; omega⟩
        · exact ⟨hc2, hm2⟩
      have HV3 : Hid (∀ V, Below wc.heap.size wc V → Calls Try.prog 54 #[key.val, U3.val] V (BoolPost V false)) := fun V hV => by
        refine HSv.out U3 false V (by rw [hU3]) (by rw [hU3]; exact HFar.out) ?_ ?_ <;> rw [hU3]
        · exact ⟨HOk.out, (hr3.below hV).more hV.size, by show (255 :: sig.drop 1).length ≤ _; rw [List.length_cons, HL1.out]; omega⟩
        · exact ⟨hc3, hm3⟩
      obtain ⟨s1, s2, s3⟩ := HF.out _ (Below.refl _ _)
      have hbF := HB3.out.trans ((hb37.trans (hb79.mono hb37.size)).mono HB3.out.size)
      clear hU2 hU3 hG3 hr3 HR2 HG2 HK7 HSv HS2 HRd8 HBk hx0 HCell HRo3 HRd hb9 hb8 hb79 HTo HTv HG3 HSg HVa HPu
      try go_frame
      go_wp2_with (first
        | (go_at_call 54; refine (HV2.out _ (Below.refl _ _)).mono ?_; rintro en w10 ⟨rfl, hb10⟩; obtain ⟨u1, u2, u3⟩ := HF.out _ hb10; clear HV2)
        | (go_at_call 54; refine (HV3.out _ hb10).mono ?_; rintro en w11 ⟨rfl, hb11⟩; have hb111 := hb10.trans (hb11.mono hb10.size))
        | (go_at_call 34; refine (HAw.out _).mono ?_; rintro en w12 ⟨rfl, hb12⟩))
      go_ret
      exact ⟨rfl, hbF.trans ((hb111.trans (hb12.mono hb111.size)).mono hbF.size)⟩

theorem laccepts_any (s : Nm) (leaf : Int) (v : Vt) (w : World) (hv : v.ok) : Calls Try.prog 15 #[s.val, .int .i64 leaf, v.val] w fun e w' => e = .returned (.bool true) ∧ Below w.heap.size w w' := by
  by_cases hy : ValidP v
  · exact laccepts_yes s leaf v w hv hy
  · exact laccepts_bad s leaf v w hv hy
end Go.Proofs.Ythmecidpjlaonaa
namespace Go.Proofs.Ythmecidpjlaonaa.signedAccepts
open Go.ChangeShapes Go.WideShapes Go.ChangeAt Go.RowKit

theorem own : ownKnob Try.prog.godebug = none := by kernel_rfl
theorem laidOut : laidOutB Try.prog = true := by kernel_rfl

set_option maxRecDepth 100000 in
set_option maxHeartbeats 1000000 in
theorem lifted (os : Os) (started : os.Started) (H : Type) (enc : TypeId × Value → H) :
    ReturnsInHanded {} Try.checked os 15 .any (Rows.signedAcceptsSpec.pre6 enc Try.prog Try.f15 Rows.signedAcceptsRow.domain false) (Rows.signedAcceptsSpec.post enc Try.prog Try.f15 false true false false) := by
  refine returnsInHanded_of_change_sized (C := Try.checked) own started (by kernel_rfl) Try.func15
    (ChangeSpec.witness6 (enc := enc) (C := Try.checked) false ⟨#[], #[.agg zero8, .int .i64 0, .agg zeroVc], []⟩ 8 (by kernel_rfl) (by kernel_rfl) (by kernel_rfl) (by kernel_rfl)) ?_
  intro W base args ds gs before hval0 hW hcnd hsz0 _
  have hval : ∀ (j : Nat) t v, Try.f15.params[j]? = some t → args[j]? = some v → Value.okWide Try.prog W .any base t v := hval0
  have hW' := hW
  obtain ⟨p, q, hA0, hV, rfl, hfz, hnd⟩ := hW
  have hA : DataW.TrodAll enc Try.prog W 0 (fun _ => true) true Try.f15.params.toList args.toList ds p := hA0
  have hsz : (DataW.weightsEach Try.prog (Try.f15.params.toList ++ Rows.signedAcceptsSpec.plain.varTypes Try.prog) (ds ++ gs)).all (· ≤ reachBytes) = true := hsz0
  rw [Try.params15] at hA hval hsz
  obtain ⟨v0, vs0, d0, ds0, p0, q0, hargs, rfl, rfl, h0, r0⟩ := trodAll_cons hA
  obtain ⟨v1, vs1, d1, ds1, p1, q1, ha1, rfl, rfl, h1, r1⟩ := trodAll_cons r0
  subst ha1
  obtain ⟨v2, vs2, d2, ds2, p2, q2, ha2, rfl, rfl, h2, r2⟩ := trodAll_cons r1
  subst ha2
  obtain ⟨rfl, rfl, rfl⟩ := trodAll_nil r2
  obtain rfl : args = #[v0, v1, v2] := by cases args; simp_all
  obtain ⟨rfl, rfl⟩ := trodVars_none hV
  have hwt : ∀ k ∈ DataW.weightsEach Try.prog ([39, 3, 41] ++ Rows.signedAcceptsSpec.plain.varTypes Try.prog) ([d0, d1, d2] ++ []), k ≤ reachBytes := fun k hk => by simpa using List.all_eq_true.1 hsz k hk
  have k0 := h0
  have lt0 : ∀ x ∈ p0, x.block < W.heap.size := by obtain ⟨m, hm⟩ := k0; exact DataW.trod_lt m _ _ _ hm
  obtain ⟨s0, hv0⟩ : ∃ s : Nm, v0.cells.toList = s.cells.toList := by
    obtain ⟨fuel, hf⟩ := h0
    exact open_name hf
  obtain ⟨cs0, hag0⟩ := okWide_array Try.underlying39 (hval 0 39 v0 rfl rfl)
  obtain rfl := agg_of hag0 hv0
  clear hag0 hv0
  have k1 := h1
  have lt1 : ∀ x ∈ p1, x.block < W.heap.size := by obtain ⟨m, hm⟩ := k1; exact DataW.trod_lt m _ _ _ hm
  obtain ⟨n1, hv1, _, hw1⟩ : ∃ n : Int, v1.cells.toList = [.int .i64 n] ∧ True ∧ (Lit.int .i64 n).wf = true := by
    obtain ⟨fuel, hf⟩ := h1
    obtain ⟨n, e, _, hw⟩ := DataW.trod_int Try.underlying3 hf
    exact ⟨n, e, trivial, hw⟩
  obtain ⟨m1, rfl⟩ := okWide_int Try.underlying3 (hval 1 3 v1 rfl rfl)
  simp [Value.cells] at hv1
  subst hv1
  have k2 := h2
  have lt2 : ∀ x ∈ p2, x.block < W.heap.size := by obtain ⟨m, hm⟩ := k2; exact DataW.trod_lt m _ _ _ hm
  obtain ⟨s2, hv2, hok2⟩ : ∃ s : Vt, v2.cells.toList = s.cells.toList ∧ s.ok := by
    obtain ⟨fuel, hf⟩ := h2
    exact open_vote hf
  obtain ⟨cs2, hag2, _⟩ := okWide_struct Try.underlying41 (hval 2 41 v2 rfl rfl)
  obtain rfl := agg_of hag2 hv2
  clear hag2 hv2
  clear hA0 hval0
  refine (laccepts_any s0 m1 s2 W hok2).mono fun e W' ⟨he, bel⟩ => ?_
  subst he
  exact ⟨_, rfl, _, _, _, [], _, [], hW', trodAll_mk1 (shut_bool Try.underlying4 _), (trodAll_cons_mk (Below.trod laidOut (by kernel_rfl) (of_decide_eq_true (by kernel_rfl)) k0 bel lt0) (trodAll_cons_mk (Below.trod laidOut (by kernel_rfl) (of_decide_eq_true (by kernel_rfl)) k1 bel lt1) (trodAll_cons_mk (Below.trod laidOut (by kernel_rfl) (of_decide_eq_true (by kernel_rfl)) k2 bel lt2) trodAll_mk0))), rfl, bel.frame _, fun h => by cases h⟩

theorem over : Rows.signedAcceptsRow.holds Try.pinned (OpenSpec.ofChange Rows.signedAcceptsSpec) :=
  OpenClaim.holds_of_wide 15 Try.f15 rfl rfl rfl rfl rfl rfl rfl ⟨rfl, rfl, rfl, rfl, rfl⟩ rfl rfl rfl rfl rfl (by kernel_rfl) Try.func15 closed
    (of_decide_eq_true (by kernel_rfl)) (by unfold Func.isWrapper; first | (rw [if_pos (by decide +kernel)]; kernel_rfl) | (rw [if_neg (by decide +kernel)]; exact ⟨rfl, rfl⟩))
    (fun os started H enc _ => lifted os started H enc)

theorem proved : Rows.SignedAcceptsSaid := over
end Go.Proofs.Ythmecidpjlaonaa.signedAccepts
