/-
  The closed facts of the row of signedSigns, one by one. No condition.
  The law SignedKeys returns true and changes nothing that was there. Condition: none but that the numbers are int64's.
  The law SignedSigns returns true and changes nothing that was there. Condition: none but that the numbers are int64's.
  The statement SignedSigns holds: Sign is as documented for every vote and leaf. No condition.
-/
import Derived.Test.YthmecidpjlaonaaFactA
import Derived.Test.YthmecidpjlaonaaFactB
import Derived.Test.YthmecidpjlaonaaFactC
import Derived.Test.YthmecidpjlaonaaFactD
import Derived.Test.YthmecidpjlaonaaGSgn3
import Derived.Test.YthmecidpjlaonaaGKey
import Derived.Test.YthmecidpjlaonaaGSame8
import Derived.Test.YthmecidpjlaonaaGRSg2
import Derived.Test.YthmecidpjlaonaaGOpen2
import Derived.ShutString
import Derived.ChangeOld
namespace Go.Proofs.Ythmecidpjlaonaa.signedSigns
theorem j1 : (Rows.signedSignsRow.wf (OpenSpec.ofChange Rows.signedSignsSpec)) = true := by kernel_rfl
theorem j2 : (laidOutB Try.prog) = true := fact2
theorem j3 : (mapsRowed Try.prog) = true := fact3
theorem j4 : (Try.f7.params.all (Try.prog.readableRec ·)) = true := by kernel_rfl
theorem j5 : (namedTie Try.prog Rows.signedSignsRow.named Rows.signedSignsSpec.vars) = true := by kernel_rfl
theorem j6 : ((Rows.signedSignsRow.stops == [])) = true := by kernel_rfl
theorem j7 : ((Try.prog.stops == [])) = true := by kernel_rfl
theorem j8 : ((Rows.signedSignsRow.knobs == [])) = true := by kernel_rfl
theorem j9 : ((Try.prog.stopKnobs == [])) = true := by kernel_rfl
theorem j10 : ((Rows.signedSignsRow.inPlace == Try.prog.inPlace 7)) = true := by kernel_rfl
theorem j11 : ((Rows.signedSignsRow.unfollowed == Try.prog.unfollowed 7)) = true := by kernel_rfl
theorem j12 : ((Rows.signedSignsRow.recurses == Try.prog.recurses 7)) = true := by kernel_rfl
theorem j13 : ((Rows.signedSignsRow.named == Try.prog.varsNamed 7)) = true := by kernel_rfl
theorem j14 : ((Rows.signedSignsRow.maps == (Try.f7.params.toList ++ Rows.signedSignsSpec.plain.varTypes Try.prog).any (Try.prog.mapsRec ·))) = true := by kernel_rfl
theorem j15 : ((Rows.signedSignsRow.ifaces == (Try.f7.params.toList ++ Rows.signedSignsSpec.plain.varTypes Try.prog).any (Try.prog.ifacesRec ·))) = true := by kernel_rfl
theorem j16 : ((Rows.signedSignsRow.mapsOut == Try.prog.mapsAmong Try.f7.resultTypes.toList)) = true := by kernel_rfl
theorem j17 : ((Rows.signedSignsRow.loops == (Try.f7.params.toList ++ Rows.signedSignsSpec.plain.varTypes Try.prog).any (Try.prog.loopsFrom ·))) = true := by kernel_rfl
theorem j18 : ((Rows.signedSignsRow.wideKeys == (Try.f7.params.toList ++ Rows.signedSignsSpec.plain.varTypes Try.prog ++ Try.f7.resultTypes.toList).any (Try.prog.wideKeysFrom ·))) = true := by kernel_rfl
theorem j19 : (Rows.signedSignsSpec.vars.all (Try.prog.varReadable ·)) = true := by kernel_rfl
theorem j20 : (Try.f7.resultTypes.all (fun t => Try.prog.readableRec t && decide (t < Try.prog.types.size))) = true := by kernel_rfl
theorem j21 : ((Rows.signedSignsRow.ifacesOut == Try.f7.resultTypes.toList.any (Try.prog.ifacesRec ·))) = true := by kernel_rfl
theorem j22 : ((Rows.signedSignsRow.loopsOut == Try.f7.resultTypes.toList.any (Try.prog.loopsFrom ·))) = true := by kernel_rfl
theorem j23 : ((Rows.signedSignsRow.plainKeys == Try.prog.plainKeys)) = true := by kernel_rfl
theorem j24 : (Rows.signedSignsRow.shortTexts.isNone) = true := by kernel_rfl
theorem j25 : (Try.prog.stopsHeard) = true := fact25
theorem j26 : (Try.prog.mayEnter) = true := fact26
theorem j27 : ((Rows.signedSignsRow.lifted == Try.prog.liftsFinal)) = true := fact27
theorem j28 : ((Try.prog.make == some Rows.signedSignsRow.make)) = true := fact28
theorem j29 : ((Rows.signedSignsRow.kinds == (if Rows.signedSignsRow.domain.isEmpty then [] else Try.f7.params.toList.map fun t => match Try.prog.underlying t with | some (.int k) => some k | _ => none))) = true := by kernel_rfl
theorem j30 : ((Rows.signedSignsRow.pinned == Rows.signedSignsRow.pinnedBy)) = true := by kernel_rfl
theorem j31 : ((Rows.signedSignsRow.veiled == (Try.f7.params.toList ++ Rows.signedSignsSpec.plain.varTypes Try.prog ++ Try.f7.resultTypes.toList).any (Try.prog.veiledRec ·))) = true := by kernel_rfl
theorem j32 : (Rows.signedSignsRow.veiledFits Try.prog Try.f7.params.toList (Try.f7.params.toList ++ Rows.signedSignsSpec.plain.varTypes Try.prog ++ Try.f7.resultTypes.toList)) = true := by kernel_rfl
set_option maxRecDepth 100000 in
theorem closed : joinedFacts Try.prog 7 Try.f7 Rows.signedSignsSpec Rows.signedSignsRow = true := by
  unfold joinedFacts
  exact and_t (and_t (and_t (and_t (and_t (and_t (and_t (and_t (and_t (and_t (and_t (and_t (and_t (and_t (and_t (and_t (and_t (and_t (and_t (and_t (and_t (and_t (and_t (and_t (and_t (and_t (and_t (and_t (and_t (and_t (and_t (j1) j2) j3) j4) j5) j6) j7) j8) j9) j10) j11) j12) j13) j14) j15) j16) j17) j18) j19) j20) j21) j22) j23) j24) j25) j26) j27) j28) j29) j30) j31) j32
end Go.Proofs.Ythmecidpjlaonaa.signedSigns
namespace Go.Proofs.Ythmecidpjlaonaa
open Go.RowKit
attribute [local go_sem ↓] Go.wp_at_zero Go.wp_at_succ loadNm loadVt loadSg loadEv
attribute [local go_sem] runNm runVt runSg runEv pickRow_some rowAt_drew rowAt_drewN

/-- What a signing call returned: cells of a signed vote; its signature, if any, lies in a block of bytes. -/
def SignR (z : VS) (cs : Array Value) (w : World) : Prop := ∃ t : Sg, cs = t.cells ∧ t.vs = z ∧ SgOk w w.heap.size t ∧ (∀ p, t.A = some p → ∃ cur, Blk w p.block 5 cur)
theorem SignR.one {z : VS} {cs : Array Value} {V : World} (h : SignR z cs V) : cs.size = 23 ∧ ∀ u ∈ cs.toList, u.oneCell' = true := by
  obtain ⟨t, rfl, _⟩ := h
  exact ⟨Sg.size_cells _, fun u hu => one_sg _ hu⟩
theorem SignR.below {z : VS} {cs : Array Value} {V V' : World} (h : SignR z cs V) (hb : Below V.heap.size V V') : SignR z cs V' := by
  obtain ⟨t, rfl, h2, h3, h4⟩ := h
  refine ⟨t, rfl, h2, (h3.below hb).more hb.size, fun p hp => ?_⟩
  obtain ⟨cur, hc⟩ := h4 p hp
  exact ⟨cur, hc.below hb hc.lt⟩
/-- A block that holds no bytes has turned. -/
theorem SignR.kept {k ty : Nat} {z : VS} {cs x : Array Value} {V V' : World} (h : SignR z cs V) (hB : Blk V k ty x) (ht : 5 ≠ ty) (hg : V.grownBy V' (some k)) : SignR z cs V' := by
  obtain ⟨t, rfl, h2, ⟨h3, h5, h6⟩, h4⟩ := h
  have hne : ∀ p, t.A = some p → some p.block ≠ some k := fun p hp e => by
    obtain ⟨cur, hc⟩ := h4 p hp
    injection e with e
    rw [e] at hc
    exact ht (blk_type hc hB)
  refine ⟨t, rfl, h2, ⟨h3, (h5.kept hg (Nat.le_refl _) hne).more hg.size, h6⟩, fun p hp => ?_⟩
  obtain ⟨cur, hc⟩ := h4 p hp
  exact ⟨cur, hc.kept hg (hne p hp)⟩
theorem SgG.sign {base : Nat} {v : Vt} {sig : List UInt8} {cs : Array Value} {w : World} (h : SgG base v sig cs w) (hv : v.ok) (hl : sig.length ≤ 140737488351232) : SignR (v, sig) cs w := by
  obtain ⟨A, c, rfl, ho⟩ := h
  refine ⟨⟨v, sig, A, c⟩, rfl, rfl, ⟨hv, Rd.of_own ho, hl⟩, fun p hp => ?_⟩
  have hp' : A = some p := hp
  rcases ho.2 with ⟨e, _⟩ | ⟨g, cap, cur, e, _, hh, _⟩
  · injection e with e; rw [hp'] at e; cases e
  · injection e with e
    rw [hp'] at e
    injection e with e
    subst e
    exact ⟨cur, hh⟩
theorem SignR.zero (w : World) : SignR (zeroV, []) zeroSc w := ⟨zeroSg, rfl, rfl, ⟨by unfold zeroSg Vt.ok zeroV; decide, .inl rfl, by decide⟩, fun p hp => by cases hp⟩
/-- Signing with a new key. -/
theorem sign_all (s : Nm) (leaf : Int) (v : Vt) (w : World) (hv : v.ok) : ∃ ok z, (∀ W, w.heap.size ≤ W.heap.size → Calls Try.prog 31 #[s.val, .int .i64 leaf, v.val] W (fun e w' => ∃ cs, e = .returned (.tuple #[.agg cs, .bool ok]) ∧ SignR z cs w' ∧ Below W.heap.size W w')) ∧
    ∀ h m W, KeyAt s h m W → Calls Try.prog 38 #[.pointer (some ⟨h, 0, none⟩), .int .i64 leaf, v.val] W (fun e w' => ∃ cs, e = .returned (.tuple #[.agg cs, .bool ok]) ∧ SignR z cs w' ∧ W.grownBy w' (some m)) := by
  by_cases hy : ValidP v
  · by_cases hl : 0 ≤ leaf ∧ leaf < 1024
    · obtain ⟨n, rfl⟩ := Int.eq_ofNat_of_zero_le hl.1
      have hn : n < 1024 := by omega
      have h370 : (sigF s n (nameF v)).length ≤ 140737488351232 := by rw [sigF_len]; omega
      refine ⟨true, (v, sigF s n (nameF v)), fun W _ => ?_, fun h m W hk => ?_⟩
      · refine (sign_yes s n v W hv hn hy).mono ?_
        rintro e w' ⟨cs, rfl, hG, hb⟩
        exact ⟨cs, rfl, hG.sign hv h370, hb⟩
      · refine (signWith_yes s h m n 0 v W hv hk hn hy (Nat.zero_le _)).mono ?_
        rintro e w' ⟨cs, rfl, hG, hg⟩
        exact ⟨cs, rfl, hG.sign hv h370, hg⟩
    · have hn : leaf < 0 ∨ 1024 ≤ leaf := by omega
      refine ⟨false, (zeroV, []), fun W _ => ?_, fun h m W hk => ?_⟩
      · refine (sign_not s leaf v W hv (.inr hn)).mono ?_
        rintro e w' ⟨rfl, hb⟩
        exact ⟨zeroSc, rfl, SignR.zero _, hb⟩
      · refine (signWith_no s h m leaf v W hv hk.1 hn hy).mono ?_
        rintro e w' ⟨rfl, hb⟩
        exact ⟨zeroSc, rfl, SignR.zero _, below_grown hb⟩
  · refine ⟨false, (zeroV, []), fun W _ => ?_, fun h m W hk => ?_⟩
    · refine (sign_not s leaf v W hv (.inl hy)).mono ?_
      rintro e w' ⟨rfl, hb⟩
      exact ⟨zeroSc, rfl, SignR.zero _, hb⟩
    · refine (signWith_bad _ leaf v W hv hy).mono ?_
      rintro e w' ⟨rfl, hb⟩
      exact ⟨zeroSc, rfl, SignR.zero _, below_grown hb⟩
theorem signNil_all (leaf : Int) (v : Vt) (w : World) (hv : v.ok) : Calls Try.prog 38 #[.pointer none, .int .i64 leaf, v.val] w (SgNo w) := by
  by_cases hy : ValidP v
  · exact signWith_nil leaf v w hv hy
  · exact signWith_bad none leaf v w hv hy
/-- Where the law stands behind its first call: a block with a signed vote, a flag. -/
def FirstS (W : World) (z : VS) (ok : Bool) (s1 s2 : Value) (wx : World) : Prop :=
  ∃ g cs, s1 = .pointer (some ⟨g, 0, none⟩) ∧ s2 = .bool ok ∧ W.heap.size ≤ g ∧ Blk wx g 43 cs ∧ SignR z cs wx ∧ Below W.heap.size W wx

set_option maxRecDepth 100000 in
set_option maxHeartbeats 8000000 in
theorem lkeys_any (s : Nm) (leaf : Int) (v : Vt) (w : World) (hv : v.ok) : Calls Try.prog 9 #[s.val, .int .i64 leaf, v.val] w fun e w' => e = .returned (.bool true) ∧ Below w.heap.size w w' := by
  obtain ⟨W, hW⟩ : ∃ W, W = (w.alloc (.cells s.cells 39)).alloc (.cells v.cells 41) := ⟨_, rfl⟩
  have hbW : Below w.heap.size w W := by rw [hW]; exact ((Below.refl _ _).alloc (Nat.le_refl _) _).alloc (by simp) _
  have HBs : Hid (Blk W w.heap.size 39 s.cells) := by unfold Hid; rw [hW]; exact (Blk.new w _ _).alloc _
  have HBv : Hid (Blk W (w.heap.size + 1) 41 v.cells) := by
    unfold Hid; rw [hW]
    have := Blk.new (w.alloc (.cells s.cells 39)) 41 v.cells
    simpa using this
  obtain ⟨ok, z, h1, h2⟩ := sign_all s leaf v W hv
  have HSg := Lib.hid h1
  have HSW := Lib.hid h2
  have HNil := Lib.hid (fun V => signNil_all leaf v V hv)
  have HNK := Lib.hid (fun V => newKey_any s V)
  have HSame := Lib.hid same8_any
  have HAw := Lib.hid awake8_any
  obtain ⟨p, hp⟩ : ∃ p, p = w.heap.size := ⟨_, rfl⟩
  obtain ⟨q, hq⟩ : ∃ q, q = w.heap.size + 1 := ⟨_, rfl⟩
  rw [← hp] at HBs
  rw [← hq] at HBv
  have HRows : Hid (∀ V, Below W.heap.size W V → rowAt V p 0 8 = some s.cells ∧ rowAt V q 0 22 = some v.cells) := fun V hV => ⟨(HBs.out.below hV HBs.out.lt).row 8 rfl, (HBv.out.below hV HBv.out.lt).row 22 rfl⟩
  have hbx : Below W.heap.size W W := Below.refl _ _
  clear h1 h2
  go_enter Try.func9, Try.ntmps9
  go_upto_region 1 with fail
  rw [← hW, ← hq, ← hp]
  clear hW hq hp
  go_cut [7, 8] (fun s1 s2 wx => FirstS W z ok s1 s2 wx)
  case first =>
    have hZ : Blk (W.drew.alloc (.cells zeroSc 43)) W.heap.size 43 zeroSc := Blk.new W.drew _ _
    have hbA : Below W.heap.size W (W.drew.alloc (.cells zeroSc 43)) := hbx.drew.alloc (Nat.le_refl _) _
    refine wp_region_noPanic ?_
    refine wp_region_held_drew (S := fun w' => rowAt w' p 0 8 = some s.cells ∧ rowAt w' q 0 22 = some v.cells) (by kernel_rfl) (HRows.out _ hbx.drew) (fun hHeld => ?_)
    refine wpAnyH_takeD (some 14) (i := 0) (v := ?vh1_0) rfl rfl (by kernel_rfl) (by kernel_rfl) (by kernel_rfl) (fun _ _ _ h => h) (by rfl) ?hh1_0 (by assumption) ?_
    case hh1_0 => (intro wq hSw; (try dsimp only at hSw); go_simp; (try (with_reducible rfl)))
    go_frame
    refine wpAnyH_takeD (some 16) (i := 2) (v := ?vh1_2) rfl rfl (by kernel_rfl) (by kernel_rfl) (by kernel_rfl) (fun _ _ _ h => h) (by rfl) ?hh1_2 (by assumption) ?_
    case hh1_2 => (intro wq hSw; (try dsimp only at hSw); go_simp; (try (with_reducible rfl)))
    go_frame
    refine wpAnyH_takeD (some 17) (i := 3) (v := ?vh1_3) rfl rfl (by kernel_rfl) (by kernel_rfl) (by kernel_rfl) (fun _ _ _ h => h) (by rfl) ?hh1_3 (by assumption) ?_
    case hh1_3 => (intro wq hSw; (try dsimp only at hSw); go_simp; (try (with_reducible rfl)))
    go_frame
    refine wpAnyH_ready (rs := [1, 8]) (by kernel_rfl) (by simp) ?_
    refine AllReadyH.cons rfl (fun K hK => ?_) (AllReadyH.cons rfl (fun K hK => ?_) AllReadyH.nil)
    · go_simp
      refine (HNK.out _).mono ?_; rintro en w2 h2; obtain ⟨h, m, rfl, hm, hk2, hb2⟩ := h2.at; clear h2; have hbx2 := hbx.drew.trans (hb2.mono hbx.drew.size); have hkk := Lib.hid hk2; have hW1 : W.heap.size ≤ m := Nat.le_trans hbx.drew.size hm; clear hk2
      have hmlt := map_base hkk.out
      go_wp2_with fail
      refine hK.out _ _ (HRows.out _ hbx2) (fun hHeld => ?_)
      clear hK K
      try go_frame
      refine wpAnyH_ready (rs := [4, 8]) (by kernel_rfl) (by simp) ?_
      refine AllReadyH.cons rfl (fun K hK => ?_) (AllReadyH.cons rfl (fun K hK => ?_) AllReadyH.nil)
      · go_simp
        refine (HSW.out h m _ hkk.out).mono ?_; rintro en w3 ⟨cs, rfl, hR3, hg3⟩; have hbx3 := hbx2.grown hg3 hbx2.size (fun j hj => by injection hj with hj; subst hj; exact hW1); have HR3 := Lib.hid hR3; clear hR3
        go_wp2_with fail
        refine hK.out _ _ (HRows.out _ hbx3) (fun hHeld => ?_)
        clear hK K
        try go_frame
        have hZ3 : Blk (w3.alloc (.cells zeroSc 43)) w3.heap.size 43 zeroSc := Blk.new w3 _ _
        have hbxA := hbx3.alloc hbx3.size (.cells zeroSc 43)
        have HR3 := Lib.hid (HR3.out.below ((Below.refl _ _).alloc (Nat.le_refl _) (.cells zeroSc 43)))
        refine wpAnyH_takeD (some 13) (i := 5) (v := ?vh2_5) rfl rfl (by kernel_rfl) (by kernel_rfl) (by kernel_rfl) (fun _ _ _ h => h) (by rfl) ?hh2_5 (by assumption) ?_
        case hh2_5 => (intro wq hSw; (try dsimp only at hSw); go_simp; (try (with_reducible rfl)))
        go_frame
        refine wpAnyH_takeD (some 19) (i := 6) (v := ?vh2_6) rfl rfl (by kernel_rfl) (by kernel_rfl) (by kernel_rfl) (fun _ _ _ h => h) (by rfl) ?hh2_6 (by assumption) ?_
        case hh2_6 => (intro wq hSw; (try dsimp only at hSw); go_simp; (try (with_reducible rfl)))
        go_frame
        refine wpAnyH_takeD (some 20) (i := 7) (v := ?vh2_7) rfl rfl (by kernel_rfl) (by kernel_rfl) (by kernel_rfl) (fun _ _ _ h => h) (by rfl) ?hh2_7 (by assumption) ?_
        case hh2_7 => (intro wq hSw; (try dsimp only at hSw); go_simp; (try (with_reducible rfl)))
        go_frame
        refine wpAnyH_ready (rs := [8]) (by kernel_rfl) (by simp) ?_
        refine AllReadyH.cons rfl (fun K hK => ?_) AllReadyH.nil
        go_simp
        refine hK.out _ _ (HRows.out _ hbxA) (fun hHeld => ?_)
        clear hK K
        try go_frame
        refine wpAnyH_ready (rs := [9]) (by kernel_rfl) (by simp) ?_
        refine AllReadyH.cons rfl (fun K hK => ?_) AllReadyH.nil
        rw [if_pos (by rfl)]
        refine wp_store_blk 43 (.tmp 7) (.tmp 19) (by rfl) (w3.heap.size) cs (by rfl) (by rfl) 43 zeroSc hZ3 (by rw [HR3.out.one.1]; rfl) (by rw [HR3.out.one.1]; exact size_sg) HR3.out.one.2 (by rfl) ?_; intro w4 hR4 hg4 hsz4; have hbx4 := hbxA.grown hg4 hbxA.size (fun j hj => by injection hj with hj; subst hj; exact hbx3.size)
        refine hK.out _ _ (HRows.out _ hbx4) (fun hHeld => ?_)
        clear hK K
        try go_frame
        refine wpAnyH_takeD (some 8) (i := 10) (v := ?vh2_10) rfl rfl (by kernel_rfl) (by kernel_rfl) (by kernel_rfl) (fun _ _ _ h => h) (by rfl) ?hh2_10 (by assumption) ?_
        case hh2_10 => (intro wq hSw; (try dsimp only at hSw); go_simp; (try (with_reducible rfl)))
        go_frame
        refine wpAnyH_done (by kernel_rfl) ?_ _
        refine NoPanic.normal ?_
        go_wp2_with fail
        go_meet
        exact ⟨_, cs, rfl, rfl, hbx3.size, hR4, HR3.out.kept hZ3 (by decide) hg4, hbx4⟩
      · go_simp
        have hZ2 : Blk (w2.alloc (.cells zeroSc 43)) w2.heap.size 43 zeroSc := Blk.new w2 _ _
        have hbxA := hbx2.alloc hbx2.size (.cells zeroSc 43)
        refine hK.out _ _ (HRows.out _ hbxA) (fun hHeld => ?_)
        clear hK K
        try go_frame
        refine wpAnyH_ready (rs := [4]) (by kernel_rfl) (by simp) ?_
        refine AllReadyH.cons rfl (fun K hK => ?_) AllReadyH.nil
        go_simp
        refine (HSW.out h m _ (hkk.out.below ((Below.refl _ _).alloc (Nat.le_refl _) _))).mono ?_; rintro en w3 ⟨cs, rfl, hR3, hg3⟩; have hbx3 := hbxA.grown hg3 hbxA.size (fun j hj => by injection hj with hj; subst hj; exact hW1); have hZ3 := hZ2.kept hg3 (by simp; have := hmlt; omega); have HR3 := Lib.hid hR3; clear hR3
        go_wp2_with fail
        refine hK.out _ _ (HRows.out _ hbx3) (fun hHeld => ?_)
        clear hK K
        try go_frame
        refine wpAnyH_takeD (some 13) (i := 5) (v := ?vh3_5) rfl rfl (by kernel_rfl) (by kernel_rfl) (by kernel_rfl) (fun _ _ _ h => h) (by rfl) ?hh3_5 (by assumption) ?_
        case hh3_5 => (intro wq hSw; (try dsimp only at hSw); go_simp; (try (with_reducible rfl)))
        go_frame
        refine wpAnyH_takeD (some 19) (i := 6) (v := ?vh3_6) rfl rfl (by kernel_rfl) (by kernel_rfl) (by kernel_rfl) (fun _ _ _ h => h) (by rfl) ?hh3_6 (by assumption) ?_
        case hh3_6 => (intro wq hSw; (try dsimp only at hSw); go_simp; (try (with_reducible rfl)))
        go_frame
        refine wpAnyH_takeD (some 20) (i := 7) (v := ?vh3_7) rfl rfl (by kernel_rfl) (by kernel_rfl) (by kernel_rfl) (fun _ _ _ h => h) (by rfl) ?hh3_7 (by assumption) ?_
        case hh3_7 => (intro wq hSw; (try dsimp only at hSw); go_simp; (try (with_reducible rfl)))
        go_frame
        refine wpAnyH_ready (rs := [9]) (by kernel_rfl) (by simp) ?_
        refine AllReadyH.cons rfl (fun K hK => ?_) AllReadyH.nil
        rw [if_pos (by rfl)]
        refine wp_store_blk 43 (.tmp 7) (.tmp 19) (by rfl) (w2.heap.size) cs (by rfl) (by rfl) 43 zeroSc hZ3 (by rw [HR3.out.one.1]; rfl) (by rw [HR3.out.one.1]; exact size_sg) HR3.out.one.2 (by rfl) ?_; intro w4 hR4 hg4 hsz4; have hbx4 := hbx3.grown hg4 hbx3.size (fun j hj => by injection hj with hj; subst hj; exact hbx2.size)
        refine hK.out _ _ (HRows.out _ hbx4) (fun hHeld => ?_)
        clear hK K
        try go_frame
        refine wpAnyH_takeD (some 8) (i := 10) (v := ?vh3_10) rfl rfl (by kernel_rfl) (by kernel_rfl) (by kernel_rfl) (fun _ _ _ h => h) (by rfl) ?hh3_10 (by assumption) ?_
        case hh3_10 => (intro wq hSw; (try dsimp only at hSw); go_simp; (try (with_reducible rfl)))
        go_frame
        refine wpAnyH_done (by kernel_rfl) ?_ _
        refine NoPanic.normal ?_
        go_wp2_with fail
        go_meet
        exact ⟨_, cs, rfl, rfl, hbx2.size, hR4, HR3.out.kept hZ3 (by decide) hg4, hbx4⟩
    · go_simp
      refine hK.out _ _ (HRows.out _ hbA) (fun hHeld => ?_)
      clear hK K
      try go_frame
      refine wpAnyH_ready (rs := [1]) (by kernel_rfl) (by simp) ?_
      refine AllReadyH.cons rfl (fun K hK => ?_) AllReadyH.nil
      go_simp
      refine (HNK.out _).mono ?_; rintro en w2 h2; obtain ⟨h, m, rfl, hm, hk2, hb2⟩ := h2.at; clear h2; have hbx2 := hbA.trans (hb2.mono hbA.size); have hkk := Lib.hid hk2; have hW1 : W.heap.size ≤ m := Nat.le_trans hbA.size hm; clear hk2; have hZ2 := hZ.below hb2 hZ.lt; have hZm : W.heap.size ≠ m := by have := hm; simp at this; omega
      go_wp2_with fail
      refine hK.out _ _ (HRows.out _ hbx2) (fun hHeld => ?_)
      clear hK K
      try go_frame
      refine wpAnyH_ready (rs := [4]) (by kernel_rfl) (by simp) ?_
      refine AllReadyH.cons rfl (fun K hK => ?_) AllReadyH.nil
      go_simp
      refine (HSW.out h m _ hkk.out).mono ?_; rintro en w3 ⟨cs, rfl, hR3, hg3⟩; have hbx3 := hbx2.grown hg3 hbx2.size (fun j hj => by injection hj with hj; subst hj; exact hW1); have hZ3 := hZ2.kept hg3 (by simpa using hZm); have HR3 := Lib.hid hR3; clear hR3
      go_wp2_with fail
      refine hK.out _ _ (HRows.out _ hbx3) (fun hHeld => ?_)
      clear hK K
      try go_frame
      refine wpAnyH_takeD (some 13) (i := 5) (v := ?vh4_5) rfl rfl (by kernel_rfl) (by kernel_rfl) (by kernel_rfl) (fun _ _ _ h => h) (by rfl) ?hh4_5 (by assumption) ?_
      case hh4_5 => (intro wq hSw; (try dsimp only at hSw); go_simp; (try (with_reducible rfl)))
      go_frame
      refine wpAnyH_takeD (some 19) (i := 6) (v := ?vh4_6) rfl rfl (by kernel_rfl) (by kernel_rfl) (by kernel_rfl) (fun _ _ _ h => h) (by rfl) ?hh4_6 (by assumption) ?_
      case hh4_6 => (intro wq hSw; (try dsimp only at hSw); go_simp; (try (with_reducible rfl)))
      go_frame
      refine wpAnyH_takeD (some 20) (i := 7) (v := ?vh4_7) rfl rfl (by kernel_rfl) (by kernel_rfl) (by kernel_rfl) (fun _ _ _ h => h) (by rfl) ?hh4_7 (by assumption) ?_
      case hh4_7 => (intro wq hSw; (try dsimp only at hSw); go_simp; (try (with_reducible rfl)))
      go_frame
      refine wpAnyH_ready (rs := [9]) (by kernel_rfl) (by simp) ?_
      refine AllReadyH.cons rfl (fun K hK => ?_) AllReadyH.nil
      rw [if_pos (by rfl)]
      refine wp_store_blk 43 (.tmp 7) (.tmp 19) (by rfl) (W.heap.size) cs (by rfl) (by rfl) 43 zeroSc hZ3 (by rw [HR3.out.one.1]; rfl) (by rw [HR3.out.one.1]; exact size_sg) HR3.out.one.2 (by rfl) ?_; intro w4 hR4 hg4 hsz4; have hbx4 := hbx3.grown hg4 hbx3.size (fun j hj => by injection hj with hj; subst hj; exact Nat.le_refl _)
      refine hK.out _ _ (HRows.out _ hbx4) (fun hHeld => ?_)
      clear hK K
      try go_frame
      refine wpAnyH_takeD (some 8) (i := 10) (v := ?vh4_10) rfl rfl (by kernel_rfl) (by kernel_rfl) (by kernel_rfl) (fun _ _ _ h => h) (by rfl) ?hh4_10 (by assumption) ?_
      case hh4_10 => (intro wq hSw; (try dsimp only at hSw); go_simp; (try (with_reducible rfl)))
      go_frame
      refine wpAnyH_done (by kernel_rfl) ?_ _
      refine NoPanic.normal ?_
      go_wp2_with fail
      go_meet
      exact ⟨_, cs, rfl, rfl, Nat.le_refl _, hR4, HR3.out.kept hZ3 (by decide) hg4, hbx4⟩
  case rest =>
    obtain ⟨g1, c1, rfl, rfl, hg1, hG1, hR1, hb1⟩ := hcut
    obtain ⟨r1, r2⟩ := HRows.out _ hb1
    have HR1 := Lib.hid hR1
    have HG1 := Lib.hid hG1
    have HB1 := Lib.hid hb1
    have lt1 := hG1.lt
    clear hR1 hG1 hb1 HBs HBv HSW HNK hbx
    go_upto_region 3 with (first
      | (go_at_call 31; refine (HSg.out _ (Nat.le_trans (Nat.le_refl _) HB1.out.size)).mono ?_; rintro en w5 ⟨c2, rfl, hR5, hb5⟩; have HR5 := Lib.hid hR5; clear hR5)
      | (refine wpList_store_blk rfl 43 (.tmp 9) (.tmp 26) rfl w5.heap.size c2 rfl rfl 43 zeroSc (Blk.new w5 _ _) (by rw [HR5.out.one.1]; rfl) (by rw [HR5.out.one.1]; exact size_sg) HR5.out.one.2 ?_; intro w6 hG6 hg6 hs6))
    have hb56 : Below w5.heap.size w5 w6 := ((Below.refl _ _).alloc (Nat.le_refl _) _).grown hg6 (by simp) (fun j hj => by injection hj with hj; subst hj; exact Nat.le_refl _)
    have hb6 := hb5.trans (hb56.mono hb5.size)
    obtain ⟨r3, r4⟩ := HRows.out _ (HB1.out.trans (hb6.mono HB1.out.size))
    have HR16 := Lib.hid (HR1.out.below hb6)
    have HR26 := Lib.hid (HR5.out.below hb56)
    have HG16 := Lib.hid (HG1.out.below hb6 HG1.out.lt)
    have HG26 := Lib.hid hG6
    have hbw6 := hbW.trans ((HB1.out.trans (hb6.mono HB1.out.size)).mono hbW.size)
    clear hb5 hb56 hg6 hs6 hG6 HR1 HR5 HG1 HB1 hb6 lt1 r1 r2 HSg HRows
    obtain ⟨g2, hg2⟩ : ∃ g, g = w5.heap.size := ⟨_, rfl⟩
    rw [← hg2] at HG26 ⊢
    clear hg2
    try go_frame
    go_upto_region 4 with (first
      | (go_at_call 38; refine (HNil.out _).mono ?_; rintro en w7 ⟨rfl, hb7⟩)
      | (refine wpList_store_blk rfl 43 (.tmp 11) (.tmp 32) rfl w7.heap.size zeroSc rfl rfl 43 zeroSc (Blk.new w7 _ _) rfl size_sg (fun u hu => one_zs hu) ?_; intro w8 hG8 hg8 hs8))
    have hb78 : Below w7.heap.size w7 w8 := ((Below.refl _ _).alloc (Nat.le_refl _) _).grown hg8 (by simp) (fun j hj => by injection hj with hj; subst hj; exact Nat.le_refl _)
    have hb8 := hb7.trans (hb78.mono hb7.size)
    obtain ⟨t1, e1, v1, k1, _⟩ := HR16.out.below hb8
    obtain ⟨t2, e2, v2, k2, _⟩ := HR26.out.below hb8
    have y1 : rowAt w8 g1 0 23 = some t1.cells := by rw [← e1]; exact (HG16.out.below hb8 HG16.out.lt).row 23 (by rw [e1]; exact t1.size_cells)
    have y2 : rowAt w8 g2 0 23 = some t2.cells := by rw [← e2]; exact (HG26.out.below hb8 HG26.out.lt).row 23 (by rw [e2]; exact t2.size_cells)
    have HSm : Hid (Calls Try.prog 33 #[t1.val, t2.val] w8 (BoolPost w8 true)) := by
      have h := HSame.out t1 t2 w8 k1 k2
      rw [v1, v2, decide_eq_true rfl] at h
      exact h
    have hbw8 := hbw6.trans (hb8.mono hbw6.size)
    clear hb7 hb78 hb8 hg8 hs8 hG8 HR16 HR26 HG16 HG26 r3 r4 e1 e2 v1 v2 k1 k2 HSame hbw6 HNil
    try go_frame
    go_wp2_with (first
      | (go_at_call 33; refine HSm.out.mono ?_; rintro en w9 ⟨rfl, hb9⟩)
      | (go_at_call 34; refine (HAw.out _).mono ?_; rintro en w10 ⟨rfl, hb10⟩))
    go_ret
    exact ⟨rfl, hbw8.trans ((hb9.trans (hb10.mono hb9.size)).mono hbw8.size)⟩
end Go.Proofs.Ythmecidpjlaonaa
namespace Go.Proofs.Ythmecidpjlaonaa
open Go.RowKit
attribute [local go_sem ↓] Go.wp_at_zero Go.wp_at_succ loadNm loadVt loadSg loadEv
attribute [local go_sem] runNm runVt runSg runEv pickRow_some rowAt_drew rowAt_drewN

/-- Signing, in the program and in the reference. -/
theorem signs_both (s : Nm) (leaf : Int) (v : Vt) (hv : v.ok) : ∃ ok z, (∀ W, Calls Try.prog 31 #[s.val, .int .i64 leaf, v.val] W (fun e w' => ∃ cs, e = .returned (.tuple #[.agg cs, .bool ok]) ∧ SignR z cs w' ∧ Below W.heap.size W w')) ∧
    (∀ W, Calls Try.prog 32 #[s.val, .int .i64 leaf, v.val] W (fun e w' => ∃ cs, e = .returned (.tuple #[.agg cs, .bool ok]) ∧ SignR z cs w' ∧ Below W.heap.size W w')) := by
  by_cases hy : ValidP v ∧ 0 ≤ leaf ∧ leaf < 1024
  · obtain ⟨n, rfl⟩ := Int.eq_ofNat_of_zero_le hy.2.1
    have hn : n < 1024 := by omega
    have h370 : (sigF s n (nameF v)).length ≤ 140737488351232 := by rw [sigF_len]; omega
    refine ⟨true, (v, sigF s n (nameF v)), fun W => ?_, fun W => ?_⟩
    · refine (sign_yes s n v W hv hn hy.1).mono ?_
      rintro e w' ⟨cs, rfl, hG, hb⟩
      exact ⟨cs, rfl, hG.sign hv h370, hb⟩
    · refine (rsign6_yes s n v W hv hn hy.1).mono ?_
      rintro e w' ⟨cs, rfl, hG, hb⟩
      exact ⟨cs, rfl, hG.sign hv h370, hb⟩
  · have hn : ¬ ValidP v ∨ leaf < 0 ∨ 1024 ≤ leaf := by
      by_cases h1 : ValidP v
      · exact .inr (by by_cases h0 : leaf < 0; exact .inl h0; by_cases h2 : 1024 ≤ leaf; exact .inr h2; exact absurd ⟨h1, by omega, by omega⟩ hy)
      · exact .inl h1
    refine ⟨false, (zeroV, []), fun W => ?_, fun W => ?_⟩
    · refine (sign_not s leaf v W hv hn).mono ?_
      rintro e w' ⟨rfl, hb⟩
      exact ⟨zeroSc, rfl, SignR.zero _, hb⟩
    · refine (rsign6_not s leaf v W hv hn).mono ?_
      rintro e w' ⟨rfl, hb⟩
      exact ⟨zeroSc, rfl, SignR.zero _, hb⟩

set_option maxRecDepth 100000 in
set_option maxHeartbeats 8000000 in
theorem lsigns_any (s : Nm) (leaf : Int) (v : Vt) (w : World) (hv : v.ok) : Calls Try.prog 7 #[s.val, .int .i64 leaf, v.val] w fun e w' => e = .returned (.bool true) ∧ Below w.heap.size w w' := by
  obtain ⟨W, hW⟩ : ∃ W, W = (w.alloc (.cells s.cells 39)).alloc (.cells v.cells 41) := ⟨_, rfl⟩
  have hbW : Below w.heap.size w W := by rw [hW]; exact ((Below.refl _ _).alloc (Nat.le_refl _) _).alloc (by simp) _
  have hBs : Blk W w.heap.size 39 s.cells := by rw [hW]; exact (Blk.new w _ _).alloc _
  have hBv : Blk W (w.heap.size + 1) 41 v.cells := by
    rw [hW]
    have := Blk.new (w.alloc (.cells s.cells 39)) 41 v.cells
    simpa using this
  obtain ⟨ok, z, h1, h2⟩ := signs_both s leaf v hv
  have HSg := Lib.hid h1
  have HRf := Lib.hid h2
  have HSame := Lib.hid same8_any
  have HAw := Lib.hid awake8_any
  obtain ⟨p, hp⟩ : ∃ p, p = w.heap.size := ⟨_, rfl⟩
  obtain ⟨q, hq⟩ : ∃ q, q = w.heap.size + 1 := ⟨_, rfl⟩
  rw [← hp] at hBs
  rw [← hq] at hBv
  have HRows : Hid (∀ V, Below W.heap.size W V → rowAt V p 0 8 = some s.cells ∧ rowAt V q 0 22 = some v.cells) := fun V hV => ⟨(hBs.below hV hBs.lt).row 8 rfl, (hBv.below hV hBv.lt).row 22 rfl⟩
  obtain ⟨r1, r2⟩ := HRows.out _ (Below.refl _ _)
  clear h1 h2 hBs hBv
  go_enter Try.func7, Try.ntmps7
  go_upto_region 1 with fail
  rw [← hW, ← hq, ← hp]
  clear hW hq hp
  go_upto_region 2 with (first
    | (go_at_call 31; refine (HSg.out _).mono ?_; rintro en w3 ⟨c1, rfl, hR3, hb3⟩; have HR3 := Lib.hid hR3; clear hR3)
    | (refine wpList_store_blk rfl 43 (.tmp 7) (.tmp 16) rfl w3.heap.size c1 rfl rfl 43 zeroSc (Blk.new w3 _ _) (by rw [HR3.out.one.1]; rfl) (by rw [HR3.out.one.1]; exact size_sg) HR3.out.one.2 ?_; intro w4 hG4 hg4 hs4))
  have hb34 : Below w3.heap.size w3 w4 := ((Below.refl _ _).alloc (Nat.le_refl _) _).grown hg4 (by simp) (fun j hj => by injection hj with hj; subst hj; exact Nat.le_refl _)
  have hb4 := hb3.trans (hb34.mono hb3.size)
  obtain ⟨r3, r4⟩ := HRows.out _ hb4
  have HR4 := Lib.hid (HR3.out.below hb34)
  have HG4 := Lib.hid hG4
  have hbw4 := hbW.trans (hb4.mono hbW.size)
  obtain ⟨g1, hg1⟩ : ∃ g, g = w3.heap.size := ⟨_, rfl⟩
  rw [← hg1] at HG4 ⊢
  clear hg1 hb3 hb34 hg4 hs4 hG4 HR3 r1 r2 hb4
  try go_frame
  go_upto_region 3 with (first
    | (go_at_call 32; refine (HRf.out _).mono ?_; rintro en w5 ⟨c2, rfl, hR5, hb5⟩; have HR5 := Lib.hid hR5; clear hR5)
    | (refine wpList_store_blk rfl 43 (.tmp 9) (.tmp 23) rfl w5.heap.size c2 rfl rfl 43 zeroSc (Blk.new w5 _ _) (by rw [HR5.out.one.1]; rfl) (by rw [HR5.out.one.1]; exact size_sg) HR5.out.one.2 ?_; intro w6 hG6 hg6 hs6))
  have hb56 : Below w5.heap.size w5 w6 := ((Below.refl _ _).alloc (Nat.le_refl _) _).grown hg6 (by simp) (fun j hj => by injection hj with hj; subst hj; exact Nat.le_refl _)
  have hb6 := hb5.trans (hb56.mono hb5.size)
  obtain ⟨t1, e1, v1, k1, _⟩ := HR4.out.below hb6
  obtain ⟨t2, e2, v2, k2, _⟩ := HR5.out.below hb56
  obtain ⟨g2, hg2⟩ : ∃ g, g = w5.heap.size := ⟨_, rfl⟩
  rw [← hg2] at hG6 ⊢
  have y1 : rowAt w6 g1 0 23 = some t1.cells := by rw [← e1]; exact (HG4.out.below hb6 HG4.out.lt).row 23 (by rw [e1]; exact t1.size_cells)
  have y2 : rowAt w6 g2 0 23 = some t2.cells := by rw [← e2]; exact hG6.row 23 (by rw [e2]; exact t2.size_cells)
  have HSm : Hid (Calls Try.prog 33 #[t1.val, t2.val] w6 (BoolPost w6 true)) := by
    have h := HSame.out t1 t2 w6 k1 k2
    rw [v1, v2, decide_eq_true rfl] at h
    exact h
  have hbw6 := hbw4.trans (hb6.mono hbw4.size)
  clear hb5 hb56 hb6 hg6 hs6 hG6 HR4 HR5 HG4 r3 r4 e1 e2 v1 v2 k1 k2 HSame hbw4 hg2
  try go_frame
  go_wp2_with (first
    | (go_at_call 33; refine HSm.out.mono ?_; rintro en w9 ⟨rfl, hb9⟩)
    | (go_at_call 34; refine (HAw.out _).mono ?_; rintro en w10 ⟨rfl, hb10⟩))
  go_ret
  exact ⟨rfl, hbw6.trans ((hb9.trans (hb10.mono hb9.size)).mono hbw6.size)⟩
end Go.Proofs.Ythmecidpjlaonaa
namespace Go.Proofs.Ythmecidpjlaonaa.signedSigns
open Go.ChangeShapes Go.WideShapes Go.ChangeAt Go.RowKit

theorem own : ownKnob Try.prog.godebug = none := by kernel_rfl
theorem laidOut : laidOutB Try.prog = true := by kernel_rfl

set_option maxRecDepth 100000 in
set_option maxHeartbeats 1000000 in
theorem lifted (os : Os) (started : os.Started) (H : Type) (enc : TypeId × Value → H) :
    ReturnsInHanded {} Try.checked os 7 .any (Rows.signedSignsSpec.pre6 enc Try.prog Try.f7 Rows.signedSignsRow.domain false) (Rows.signedSignsSpec.post enc Try.prog Try.f7 false true false false) := by
  refine returnsInHanded_of_change_sized (C := Try.checked) own started (by kernel_rfl) Try.func7
    (ChangeSpec.witness6 (enc := enc) (C := Try.checked) false ⟨#[], #[.agg zero8, .int .i64 0, .agg zeroVc], []⟩ 8 (by kernel_rfl) (by kernel_rfl) (by kernel_rfl) (by kernel_rfl)) ?_
  intro W base args ds gs before hval0 hW hcnd hsz0 _
  have hval : ∀ (j : Nat) t v, Try.f7.params[j]? = some t → args[j]? = some v → Value.okWide Try.prog W .any base t v := hval0
  have hW' := hW
  obtain ⟨p, q, hA0, hV, rfl, hfz, hnd⟩ := hW
  have hA : DataW.TrodAll enc Try.prog W 0 (fun _ => true) true Try.f7.params.toList args.toList ds p := hA0
  have hsz : (DataW.weightsEach Try.prog (Try.f7.params.toList ++ Rows.signedSignsSpec.plain.varTypes Try.prog) (ds ++ gs)).all (· ≤ reachBytes) = true := hsz0
  rw [Try.params7] at hA hval hsz
  obtain ⟨v0, vs0, d0, ds0, p0, q0, hargs, rfl, rfl, h0, r0⟩ := trodAll_cons hA
  obtain ⟨v1, vs1, d1, ds1, p1, q1, ha1, rfl, rfl, h1, r1⟩ := trodAll_cons r0
  subst ha1
  obtain ⟨v2, vs2, d2, ds2, p2, q2, ha2, rfl, rfl, h2, r2⟩ := trodAll_cons r1
  subst ha2
  obtain ⟨rfl, rfl, rfl⟩ := trodAll_nil r2
  obtain rfl : args = #[v0, v1, v2] := by cases args; simp_all
  obtain ⟨rfl, rfl⟩ := trodVars_none hV
  have hwt : ∀ k ∈ DataW.weightsEach Try.prog ([39, 3, 41] ++ Rows.signedSignsSpec.plain.varTypes Try.prog) ([d0, d1, d2] ++ []), k ≤ reachBytes := fun k hk => by simpa using List.all_eq_true.1 hsz k hk
  have k0 := h0
  have lt0 : ∀ x ∈ p0, x.block < W.heap.size := by obtain ⟨m, hm⟩ := k0; exact DataW.trod_lt m _ _ _ hm
  obtain ⟨s0, hv0⟩ : ∃ s : Nm, v0.cells.toList = s.cells.toList := by
    obtain ⟨fuel, hf⟩ := h0
    exact open_name hf
  obtain ⟨cs0, hag0⟩ := okWide_array Try.underlying39 (hval 0 39 v0 rfl rfl)
  obtain rfl := agg_of hag0 hv0
  clear hag0 hv0
  have k1 := h1
  have lt1 : ∀ x ∈ p1, x.block < W.heap.size := by obtain ⟨m, hm⟩ := k1; exact DataW.trod_lt m _ _ _ hm
  obtain ⟨n1, hv1, _, hw1⟩ : ∃ n : Int, v1.cells.toList = [.int .i64 n] ∧ True ∧ (Lit.int .i64 n).wf = true := by
    obtain ⟨fuel, hf⟩ := h1
    obtain ⟨n, e, _, hw⟩ := DataW.trod_int Try.underlying3 hf
    exact ⟨n, e, trivial, hw⟩
  obtain ⟨m1, rfl⟩ := okWide_int Try.underlying3 (hval 1 3 v1 rfl rfl)
  simp [Value.cells] at hv1
  subst hv1
  have k2 := h2
  have lt2 : ∀ x ∈ p2, x.block < W.heap.size := by obtain ⟨m, hm⟩ := k2; exact DataW.trod_lt m _ _ _ hm
  obtain ⟨s2, hv2, hok2⟩ : ∃ s : Vt, v2.cells.toList = s.cells.toList ∧ s.ok := by
    obtain ⟨fuel, hf⟩ := h2
    exact open_vote hf
  obtain ⟨cs2, hag2, _⟩ := okWide_struct Try.underlying41 (hval 2 41 v2 rfl rfl)
  obtain rfl := agg_of hag2 hv2
  clear hag2 hv2
  clear hA0 hval0
  refine (lsigns_any s0 m1 s2 W hok2).mono fun e W' ⟨he, bel⟩ => ?_
  subst he
  exact ⟨_, rfl, _, _, _, [], _, [], hW', trodAll_mk1 (shut_bool Try.underlying4 _), (trodAll_cons_mk (Below.trod laidOut (by kernel_rfl) (of_decide_eq_true (by kernel_rfl)) k0 bel lt0) (trodAll_cons_mk (Below.trod laidOut (by kernel_rfl) (of_decide_eq_true (by kernel_rfl)) k1 bel lt1) (trodAll_cons_mk (Below.trod laidOut (by kernel_rfl) (of_decide_eq_true (by kernel_rfl)) k2 bel lt2) trodAll_mk0))), rfl, bel.frame _, fun h => by cases h⟩

theorem over : Rows.signedSignsRow.holds Try.pinned (OpenSpec.ofChange Rows.signedSignsSpec) :=
  OpenClaim.holds_of_wide 7 Try.f7 rfl rfl rfl rfl rfl rfl rfl ⟨rfl, rfl, rfl, rfl, rfl⟩ rfl rfl rfl rfl rfl (by kernel_rfl) Try.func7 closed
    (of_decide_eq_true (by kernel_rfl)) (by unfold Func.isWrapper; first | (rw [if_pos (by decide +kernel)]; kernel_rfl) | (rw [if_neg (by decide +kernel)]; exact ⟨rfl, rfl⟩))
    (fun os started H enc _ => lifted os started H enc)

theorem proved : Rows.SignedSignsSaid := over
end Go.Proofs.Ythmecidpjlaonaa.signedSigns
