/-
  The closed facts of the row of evidenceSound, one by one. No condition.
  evidence.Valid returns whether a pair shows two votes in conflict, in order, that verify. Condition: keys and pair lie in memory below the call.
  The law EvidenceGrows returns true and changes nothing that was there. Condition: its arguments lie in memory below the call.
  The law EvidenceSound returns true and changes nothing that was there. Condition: its arguments lie in memory below the call.
  For all keys and lists of signed votes, every pair that Find returns is valid evidence out of the list, one for each signer, in ascending order: the law EvidenceSound returns true. No condition.
-/
import Derived.Test.YthmecidpjlaonaaFactA
import Derived.Test.YthmecidpjlaonaaFactB
import Derived.Test.YthmecidpjlaonaaFactC
import Derived.Test.YthmecidpjlaonaaFactD
import Derived.Test.YthmecidpjlaonaaGPFind
import Derived.Test.YthmecidpjlaonaaGOpen2
import Derived.ShutString
import Derived.ChangeOld
namespace Go.Proofs.Ythmecidpjlaonaa.evidenceSound
theorem j1 : (Rows.evidenceSoundRow.wf (OpenSpec.ofChange Rows.evidenceSoundSpec)) = true := by kernel_rfl
theorem j2 : (laidOutB Try.prog) = true := fact2
theorem j3 : (mapsRowed Try.prog) = true := fact3
theorem j4 : (Try.f14.params.all (Try.prog.readableRec ·)) = true := by kernel_rfl
theorem j5 : (namedTie Try.prog Rows.evidenceSoundRow.named Rows.evidenceSoundSpec.vars) = true := by kernel_rfl
theorem j6 : ((Rows.evidenceSoundRow.stops == [])) = true := by kernel_rfl
theorem j7 : ((Try.prog.stops == [])) = true := by kernel_rfl
theorem j8 : ((Rows.evidenceSoundRow.knobs == [])) = true := by kernel_rfl
theorem j9 : ((Try.prog.stopKnobs == [])) = true := by kernel_rfl
theorem j10 : ((Rows.evidenceSoundRow.inPlace == Try.prog.inPlace 14)) = true := by kernel_rfl
theorem j11 : ((Rows.evidenceSoundRow.unfollowed == Try.prog.unfollowed 14)) = true := by kernel_rfl
theorem j12 : ((Rows.evidenceSoundRow.recurses == Try.prog.recurses 14)) = true := by kernel_rfl
theorem j13 : ((Rows.evidenceSoundRow.named == Try.prog.varsNamed 14)) = true := by kernel_rfl
theorem j14 : ((Rows.evidenceSoundRow.maps == (Try.f14.params.toList ++ Rows.evidenceSoundSpec.plain.varTypes Try.prog).any (Try.prog.mapsRec ·))) = true := by kernel_rfl
theorem j15 : ((Rows.evidenceSoundRow.ifaces == (Try.f14.params.toList ++ Rows.evidenceSoundSpec.plain.varTypes Try.prog).any (Try.prog.ifacesRec ·))) = true := by kernel_rfl
theorem j16 : ((Rows.evidenceSoundRow.mapsOut == Try.prog.mapsAmong Try.f14.resultTypes.toList)) = true := by kernel_rfl
theorem j17 : ((Rows.evidenceSoundRow.loops == (Try.f14.params.toList ++ Rows.evidenceSoundSpec.plain.varTypes Try.prog).any (Try.prog.loopsFrom ·))) = true := by kernel_rfl
theorem j18 : ((Rows.evidenceSoundRow.wideKeys == (Try.f14.params.toList ++ Rows.evidenceSoundSpec.plain.varTypes Try.prog ++ Try.f14.resultTypes.toList).any (Try.prog.wideKeysFrom ·))) = true := by kernel_rfl
theorem j19 : (Rows.evidenceSoundSpec.vars.all (Try.prog.varReadable ·)) = true := by kernel_rfl
theorem j20 : (Try.f14.resultTypes.all (fun t => Try.prog.readableRec t && decide (t < Try.prog.types.size))) = true := by kernel_rfl
theorem j21 : ((Rows.evidenceSoundRow.ifacesOut == Try.f14.resultTypes.toList.any (Try.prog.ifacesRec ·))) = true := by kernel_rfl
theorem j22 : ((Rows.evidenceSoundRow.loopsOut == Try.f14.resultTypes.toList.any (Try.prog.loopsFrom ·))) = true := by kernel_rfl
theorem j23 : ((Rows.evidenceSoundRow.plainKeys == Try.prog.plainKeys)) = true := by kernel_rfl
theorem j24 : (Rows.evidenceSoundRow.shortTexts.isNone) = true := by kernel_rfl
theorem j25 : (Try.prog.stopsHeard) = true := fact25
theorem j26 : (Try.prog.mayEnter) = true := fact26
theorem j27 : ((Rows.evidenceSoundRow.lifted == Try.prog.liftsFinal)) = true := fact27
theorem j28 : ((Try.prog.make == some Rows.evidenceSoundRow.make)) = true := fact28
theorem j29 : ((Rows.evidenceSoundRow.kinds == (if Rows.evidenceSoundRow.domain.isEmpty then [] else Try.f14.params.toList.map fun t => match Try.prog.underlying t with | some (.int k) => some k | _ => none))) = true := by kernel_rfl
theorem j30 : ((Rows.evidenceSoundRow.pinned == Rows.evidenceSoundRow.pinnedBy)) = true := by kernel_rfl
theorem j31 : ((Rows.evidenceSoundRow.veiled == (Try.f14.params.toList ++ Rows.evidenceSoundSpec.plain.varTypes Try.prog ++ Try.f14.resultTypes.toList).any (Try.prog.veiledRec ·))) = true := by kernel_rfl
theorem j32 : (Rows.evidenceSoundRow.veiledFits Try.prog Try.f14.params.toList (Try.f14.params.toList ++ Rows.evidenceSoundSpec.plain.varTypes Try.prog ++ Try.f14.resultTypes.toList)) = true := by kernel_rfl
set_option maxRecDepth 100000 in
theorem closed : joinedFacts Try.prog 14 Try.f14 Rows.evidenceSoundSpec Rows.evidenceSoundRow = true := by
  unfold joinedFacts
  exact and_t (and_t (and_t (and_t (and_t (and_t (and_t (and_t (and_t (and_t (and_t (and_t (and_t (and_t (and_t (and_t (and_t (and_t (and_t (and_t (and_t (and_t (and_t (and_t (and_t (and_t (and_t (and_t (and_t (and_t (and_t (j1) j2) j3) j4) j5) j6) j7) j8) j9) j10) j11) j12) j13) j14) j15) j16) j17) j18) j19) j20) j21) j22) j23) j24) j25) j26) j27) j28) j29) j30) j31) j32
end Go.Proofs.Ythmecidpjlaonaa.evidenceSound
namespace Go.Proofs.Ythmecidpjlaonaa
open Go.RowKit
attribute [local go_sem ↓] Go.wp_at_zero Go.wp_at_succ loadNm loadVt loadSg loadEv
attribute [local go_sem] runNm runVt runSg runEv pickRow_some rowAt_drew rowAt_drewN

def validF (keys : List Nm) (e : ES) : Bool := decide (ConfP e.1.1 e.2.1) && (lessV e.1.1 e.2.1 && (verK keys e.1.1 e.1.2 && verK keys e.2.1 e.2.2))
set_option maxRecDepth 100000 in
set_option maxHeartbeats 4000000 in
theorem pvalid_any (K : Option Addr) (nk ck : Nat) (keys : List Nm) (e : Ev) (w : World) (hnk : keys.length = nk) (hK : Rd w w.heap.size K (keys.flatMap nmc)) (ha : SgOk w w.heap.size e.a ∧ SgCap e.a) (hb : SgOk w w.heap.size e.b ∧ SgCap e.b) :
    Calls Try.prog 56 #[.slice K nk ck, e.val] w (BoolPost w (validF keys e.vs)) := by
  obtain ⟨w1, hw1⟩ : ∃ w1, w1 = w.alloc (.cells e.cells 45) := ⟨_, rfl⟩
  have hbw : Below w.heap.size w w1 := by rw [hw1]; exact (Below.refl _ _).alloc (Nat.le_refl _) _
  have HBe : Hid (Blk w1 w.heap.size 45 e.cells) := by unfold Hid; rw [hw1]; exact Blk.new w _ _
  obtain ⟨k1, hk1⟩ : ∃ k, k = decide (ConfP e.a.vote e.b.vote) := ⟨_, rfl⟩
  obtain ⟨k2, hk2⟩ : ∃ k, k = lessV e.a.vote e.b.vote := ⟨_, rfl⟩
  obtain ⟨k3, hk3⟩ : ∃ k, k = verK keys e.a.vote e.a.sig := ⟨_, rfl⟩
  obtain ⟨k4, hk4⟩ : ∃ k, k = verK keys e.b.vote e.b.sig := ⟨_, rfl⟩
  have hres : validF keys e.vs = (k1 && (k2 && (k3 && k4))) := by rw [hk1, hk2, hk3, hk4]; rfl
  rw [hres]
  have HC : Hid (∀ V, Calls Try.prog 55 #[e.a.vote.val, e.b.vote.val] V (BoolPost V k1)) := fun V => by rw [hk1]; exact conf_any _ _ V ha.1.1 hb.1.1
  have HL : Hid (∀ V, Calls Try.prog 37 #[e.a.vote.val, e.b.vote.val] V (BoolPost V k2)) := fun V => by rw [hk2]; exact vless_any _ _ V
  have HVA : Hid (∀ V, Below w.heap.size w V → Calls Try.prog 91 #[.slice K nk ck, e.a.val] V (BoolPost V k3)) := fun V hV => by rw [hk3, ← hnk]; exact pverify_any K ck keys e.a V ((hK.below hV).more hV.size) ((ha.1.below hV).more hV.size) ha.2
  have HVB : Hid (∀ V, Below w.heap.size w V → Calls Try.prog 91 #[.slice K nk ck, e.b.val] V (BoolPost V k4)) := fun V hV => by rw [hk4, ← hnk]; exact pverify_any K ck keys e.b V ((hK.below hV).more hV.size) ((hb.1.below hV).more hV.size) hb.2
  have HRows : Hid (∀ V, Below w1.heap.size w1 V → rowAt V w.heap.size 0 22 = some e.a.vote.cells ∧ rowAt V w.heap.size 23 22 = some e.b.vote.cells ∧ rowAt V w.heap.size 0 23 = some e.a.cells ∧ rowAt V w.heap.size 23 23 = some e.b.cells) := fun V hV =>
    ⟨e.row_va (HBe.out.below hV HBe.out.lt), e.row_vb (HBe.out.below hV HBe.out.lt), e.row_a (HBe.out.below hV HBe.out.lt), e.row_b (HBe.out.below hV HBe.out.lt)⟩
  obtain ⟨r1, r2, r3, r4⟩ := HRows.out w1 (Below.refl _ _)
  clear hk1 hk2 hk3 hk4 hres hnk hK ha hb
  go_enter Try.func56, Try.ntmps56
  go_upto_region 1 with fail
  rw [← hw1]
  clear hw1 r3 r4
  cases k1 with
  | false =>
    go_wp2_with (go_at_call 55; refine (HC.out _).mono ?_; rintro en w2 ⟨rfl, hb2⟩)
    go_ret
    exact ⟨rfl, hbw.trans (hb2.mono hbw.size)⟩
  | true =>
    cases k2 with
    | false =>
      go_wp2_with (first
        | (go_at_call 55; refine (HC.out _).mono ?_; rintro en w2 ⟨rfl, hb2⟩; obtain ⟨s1, s2, _, _⟩ := HRows.out w2 hb2)
        | (go_at_call 37; refine (HL.out _).mono ?_; rintro en w3 ⟨rfl, hb3⟩))
      go_ret
      exact ⟨rfl, hbw.trans ((hb2.trans (hb3.mono hb2.size)).mono hbw.size)⟩
    | true =>
      cases k3 with
      | false =>
        go_wp2_with (first
          | (go_at_call 55; refine (HC.out _).mono ?_; rintro en w2 ⟨rfl, hb2⟩; obtain ⟨s1, s2, _, _⟩ := HRows.out w2 hb2)
          | (go_at_call 37; refine (HL.out _).mono ?_; rintro en w3 ⟨rfl, hb3⟩; have hb13 := hb2.trans (hb3.mono hb2.size); have hbw3 := hbw.trans (hb13.mono hbw.size); obtain ⟨_, _, t3, _⟩ := HRows.out w3 hb13)
          | (go_at_call 91; refine (HVA.out _ hbw3).mono ?_; rintro en w4 ⟨rfl, hb4⟩; have hbw4 := hbw3.trans (hb4.mono hbw3.size)))
        go_ret
        exact ⟨rfl, hbw4⟩
      | true =>
        go_wp2_with (first
          | (go_at_call 55; refine (HC.out _).mono ?_; rintro en w2 ⟨rfl, hb2⟩; obtain ⟨s1, s2, _, _⟩ := HRows.out w2 hb2)
          | (go_at_call 37; refine (HL.out _).mono ?_; rintro en w3 ⟨rfl, hb3⟩; have hb13 := hb2.trans (hb3.mono hb2.size); have hbw3 := hbw.trans (hb13.mono hbw.size); obtain ⟨_, _, t3, _⟩ := HRows.out w3 hb13)
          | (go_at_call 91; refine (HVA.out _ hbw3).mono ?_; rintro en w4 ⟨rfl, hb4⟩; have hbw4 := hbw3.trans (hb4.mono hbw3.size); obtain ⟨_, _, _, u4⟩ := HRows.out w4 (hb13.trans (hb4.mono hb13.size)); clear HVA)
          | (go_at_call 91; refine (HVB.out _ hbw4).mono ?_; rintro en w5 ⟨rfl, hb5⟩; have hbw5 := hbw4.trans (hb5.mono hbw4.size)))
        go_ret
        exact ⟨by simp, hbw5⟩
end Go.Proofs.Ythmecidpjlaonaa
namespace Go.Proofs.Ythmecidpjlaonaa
open Go.RowKit
attribute [local go_sem ↓] Go.wp_at_zero Go.wp_at_succ loadNm loadVt loadSg loadEv
attribute [local go_sem] runNm runVt runSg runEv pickRow_some rowAt_drew rowAt_drewN

theorem andNot_sub (a g : Nat) (h : ∀ i, a.testBit i = true → g.testBit i = true) : bits .andNot .i64 (a : Int) (g : Int) = 0 := by
  have e : (BitVec.ofInt 64 (a : Int) &&& ~~~(BitVec.ofInt 64 (g : Int))) = 0#64 := by
    rw [BitVec.ofInt_natCast, BitVec.ofInt_natCast]
    apply BitVec.eq_of_getLsbD_eq
    intro i hi
    rw [BitVec.getLsbD_and, BitVec.getLsbD_not, BitVec.getLsbD_ofNat, BitVec.getLsbD_ofNat, BitVec.getLsbD_zero]
    cases ha : a.testBit i with
    | false => simp
    | true => rw [h i ha]; simp [hi]
  show IntKind.i64.wrap ((BitVec.ofInt 64 (a : Int) &&& ~~~(BitVec.ofInt 64 (g : Int))).toNat : Int) = 0
  rw [e]; rfl
set_option maxRecDepth 100000 in
theorem cut9_any (A : Option Addr) (n c : Nat) (w : World) (hA : 60 < n → A ≠ none) (hc : n ≤ c) : Calls Try.prog 49 #[.slice A n c] w fun e w' => e = .returned (.slice A (min n 60) c) ∧ w' = w := by
  by_cases h : 60 < n
  · have d : decide ((60 : Int) < (n : Int)) = true := by simp; omega
    have e : min n 60 = 60 := by omega
    have k : (60 : Int) ≤ (c : Int) := by omega
    rw [e]
    clear e
    rcases A with _ | ⟨b, o, p⟩
    · exact absurd rfl (hA h)
    · go_enter Try.func49, Try.ntmps49
      go_wp2
      go_ret
      exact ⟨rfl, rfl⟩
  · have d : decide ((60 : Int) < (n : Int)) = false := by simp; omega
    have e : min n 60 = n := by omega
    rw [e]
    clear e
    go_enter Try.func49, Try.ntmps49
    go_wp2
    go_ret
    exact ⟨rfl, rfl⟩
theorem glt_sub {keys : List Nm} {l l' : List VS} (h : ∀ x ∈ l, x ∈ l') : bits .andNot .i64 ((gltF keys l : Nat) : Int) ((gltF keys l' : Nat) : Int) = 0 :=
  andNot_sub _ _ fun i hi => (gltF_bit keys l' i).2 (((gltF_bit keys l i).1 hi).mono h)
/-- A list that was put together in memory of the call's own. -/
theorem own_sgs {w W : World} {b n : Nat} {v : Value} {L : List Sg} (h : W.ownsRow b 43 23 v n (L.flatMap sgc)) (hn : n = L.length) (hb : Below w.heap.size w W) (hs : SgsOk w w.heap.size L) : SlOk W L v :=
  own_slice h hn ((hs.below hb).more hb.size)
theorem FoundPost.nice {w : World} {c : List ES} {e : Ending} {w' : World} (h : FoundPost w c e w') : ∃ (E : List Ev) (A : Option Addr) (k : Nat), e = .returned (.slice A E.length k) ∧ Below w.heap.size w w' ∧ Rd w' w'.heap.size A (E.flatMap evc) ∧ EvsCap w' E ∧ E.map Ev.vs = c := by
  obtain ⟨E, v, rfl, hb, hown, hk, he⟩ := h
  obtain ⟨A, k, rfl, hr, _, _⟩ := own_evs hown rfl
  exact ⟨E, A, k, rfl, hb, hr, hk, he⟩

set_option maxRecDepth 100000 in
set_option maxHeartbeats 8000000 in
theorem lgrows_core (K A A' : Option Addr) (nk ck n n' c m m' c' : Nat) (keys : List Nm) (l l' : List Sg) (w : World) (hnk : keys.length = nk) (hn : l.length = n') (hm : l'.length = m') (hK : Rd w w.heap.size K (keys.flatMap nmc)) (hr : Rd w w.heap.size A (l.flatMap sgc)) (hr' : Rd w w.heap.size A' (l'.flatMap sgc))
    (hok : SgsOk w w.heap.size l) (hok' : SgsOk w w.heap.size l') (hsmall : n' ≤ 60) (hsmall' : m' ≤ 60) (hcut : ∀ W, Calls Try.prog 49 #[.slice A n c] W fun e w' => e = .returned (.slice A n' c) ∧ w' = W) (hcut' : ∀ W, Calls Try.prog 49 #[.slice A' m c'] W fun e w' => e = .returned (.slice A' m' c') ∧ w' = W) :
    Calls Try.prog 12 #[.slice K nk ck, .slice A n c, .slice A' m c'] w fun e w' => e = .returned (.bool true) ∧ Below w.heap.size w w' := by
  have HCut := Lib.hid hcut
  have HCut' := Lib.hid hcut'
  have HN := Lib.hid hn
  have HM := Lib.hid hm
  have HR := Lib.hid hr
  have HR' := Lib.hid hr'
  have HOk := Lib.hid hok
  have HOk' := Lib.hid hok'
  have HAw := Lib.hid awake9_any
  have HG : Hid (∀ (B : Option Addr) (k kc : Nat) (L : List Sg) (V : World), Below w.heap.size w V → L.length = k → Rd V V.heap.size B (L.flatMap sgc) → SgsOk V V.heap.size L → k ≤ 1000000 → Calls Try.prog 50 #[.slice K nk ck, .slice B k kc] V (IntPost V ((gltF keys (L.map Sg.vs) : Nat) : Int))) :=
    fun B k kc L V hV h1 h2 h3 h4 => glt_any K B nk ck k kc keys L V hnk h1 ((hK.below hV).more hV.size) h2 h3 h4
  have HF : Hid (∀ (B : Option Addr) (k kc : Nat) (L : List Sg) (V : World), Below w.heap.size w V → L.length = k → Rd V V.heap.size B (L.flatMap sgc) → SgsOk V V.heap.size L → k ≤ 1000000 → Calls Try.prog 52 #[.slice K nk ck, .slice B k kc] V (FoundPost V (findS (cvS keys (L.map Sg.vs)) 10))) :=
    fun B k kc L V hV h1 h2 h3 h4 => pfind_any K B nk ck k kc keys L V hnk h1 ((hK.below hV).more hV.size) h2 h3 h4
  clear hcut hcut' hnk hn hm hK hr hr' hok hok'
  have hb0 : Below w.heap.size w w := Below.refl _ _
  go_enter Try.func12, Try.ntmps12
  go_upto_region 2 with (first
    | (go_at_call 49; refine (HCut.out _).mono ?_; rintro en w2 ⟨rfl, hw2⟩; replace hw2 := hw2.symm; subst hw2; clear HCut)
    | (go_at_call 49; refine (HCut'.out _).mono ?_; rintro en w2 ⟨rfl, hw2⟩; replace hw2 := hw2.symm; subst hw2))
  try go_frame
  have hmade : Hid ((w.alloc (.cells #[] 43)).ownsRow w.heap.size 43 23 (.slice (some ⟨w.heap.size, 0, none⟩) 0 0) 0 []) := World.ownsRow_made w #[] 0 (Nat.le_refl _) (by unfold maxLen; omega) rfl
  go_upto_region 3 with (first
    | (at_builtin; refine wpList_app rfl (.tmp 14) (.tmp 15) _ rfl w.heap.size 43 (.agg zeroSc) 23 88 Try.underlying29 info_signed rfl (by decide) (.slice (some ⟨w.heap.size, 0, none⟩) 0 0) 0 [] rfl hmade.out w.heap.size A n' c (l.flatMap sgc) rfl (by rw [flat_length sgc 23 l (sgc_len l), HN.out]) (HR.out.alloc (Nat.le_refl _) _) (fun u hu => by obtain ⟨s, _, hs⟩ := List.mem_flatMap.1 hu; exact s.one u hs) (by omega) (by unfold maxLen; omega) (by simp) ?_; intro v2 w2 hown2 hg2 hat2; rw [Nat.zero_add, List.nil_append] at hown2; have hbw2 : Below w.heap.size w w2 := below_own (hb0.alloc (Nat.le_refl _) _) hmade.out hg2; have HOwn2 := Lib.hid hown2; clear hown2 hg2 hat2)
    | (at_builtin; refine wpList_app rfl (.tmp 16) (.tmp 17) _ rfl w.heap.size 43 (.agg zeroSc) 23 88 Try.underlying29 info_signed rfl (by decide) v2 n' (l.flatMap sgc) rfl HOwn2.out w.heap.size A' m' c' (l'.flatMap sgc) rfl (by rw [flat_length sgc 23 l' (sgc_len l'), HM.out]) (HR'.out.below hbw2) (fun u hu => by obtain ⟨s, _, hs⟩ := List.mem_flatMap.1 hu; exact s.one u hs) (by omega) (by unfold maxLen; omega) hbw2.size ?_; intro v3 w3 hown3 hg3 hat3; rw [← List.flatMap_append] at hown3; have hbw3 : Below w.heap.size w w3 := below_own hbw2 HOwn2.out hg3; have HOwn3 := Lib.hid hown3; clear hown3 hg3 hat3))
  obtain ⟨B3, c3, hv3⟩ := own_form HOwn3.out
  subst hv3
  clear HOwn2 hbw2
  try go_frame
  have hmade3 : Hid ((w3.alloc (.cells #[] 43)).ownsRow w3.heap.size 43 23 (.slice (some ⟨w3.heap.size, 0, none⟩) 0 0) 0 []) := World.ownsRow_made w3 #[] 0 (Nat.le_refl _) (by unfold maxLen; omega) rfl
  have hb3 : Below w3.heap.size w3 w3 := Below.refl _ _
  go_upto_region 4 with (first
    | (at_builtin; refine wpList_app rfl (.tmp 19) (.tmp 20) _ rfl w3.heap.size 43 (.agg zeroSc) 23 88 Try.underlying29 info_signed rfl (by decide) (.slice (some ⟨w3.heap.size, 0, none⟩) 0 0) 0 [] rfl hmade3.out w3.heap.size A' m' c' (l'.flatMap sgc) rfl (by rw [flat_length sgc 23 l' (sgc_len l'), HM.out]) (((HR'.out.below hbw3).more hbw3.size).alloc (Nat.le_refl _) _) (fun u hu => by obtain ⟨s, _, hs⟩ := List.mem_flatMap.1 hu; exact s.one u hs) (by omega) (by unfold maxLen; omega) (by simp) ?_; intro v4 w4 hown4 hg4 hat4; rw [Nat.zero_add, List.nil_append] at hown4; have hbw4 : Below w3.heap.size w3 w4 := below_own (hb3.alloc (Nat.le_refl _) _) hmade3.out hg4; have HOwn4 := Lib.hid hown4; clear hown4 hg4 hat4)
    | (at_builtin; refine wpList_app rfl (.tmp 21) (.tmp 22) _ rfl w3.heap.size 43 (.agg zeroSc) 23 88 Try.underlying29 info_signed rfl (by decide) v4 m' (l'.flatMap sgc) rfl HOwn4.out w3.heap.size A n' c (l.flatMap sgc) rfl (by rw [flat_length sgc 23 l (sgc_len l), HN.out]) (((HR.out.below hbw3).more hbw3.size).below hbw4) (fun u hu => by obtain ⟨s, _, hs⟩ := List.mem_flatMap.1 hu; exact s.one u hs) (by omega) (by unfold maxLen; omega) hbw4.size ?_; intro v5 w5 hown5 hg5 hat5; rw [← List.flatMap_append] at hown5; have hbw5 : Below w3.heap.size w3 w5 := below_own hbw4 HOwn4.out hg5; have HOwn5 := Lib.hid hown5; clear hown5 hg5 hat5))
  obtain ⟨B5, c5, hv5⟩ := own_form HOwn5.out
  subst hv5
  have HA5 : Hid (w5.ownsRow w.heap.size 43 23 (.slice B3 (n' + m') c3) (n' + m') ((l ++ l').flatMap sgc)) := own_below HOwn3.out hbw5 (Nat.le_refl _)
  have hw5 : Below w.heap.size w w5 := hbw3.trans (hbw5.mono hbw3.size)
  have hokA : SgsOk w w.heap.size (l ++ l') := fun s hs => by rcases List.mem_append.1 hs with hs | hs; exact HOk.out s hs; exact HOk'.out s hs
  have hokT : SgsOk w w.heap.size (l' ++ l) := fun s hs => by rcases List.mem_append.1 hs with hs | hs; exact HOk'.out s hs; exact HOk.out s hs
  have HRA := Lib.hid (Rd.of_own HA5.out)
  have HRT := Lib.hid (Rd.of_own HOwn5.out)
  have hmem : ∀ x, x ∈ (l' ++ l).map Sg.vs ↔ x ∈ (l ++ l').map Sg.vs := fun x => by rw [List.map_append, List.map_append, List.mem_append, List.mem_append]; exact Or.comm
  obtain ⟨g, hg⟩ : ∃ g, g = gltF keys ((l ++ l').map Sg.vs) := ⟨_, rfl⟩
  obtain ⟨ga, hga⟩ : ∃ g, g = gltF keys (l.map Sg.vs) := ⟨_, rfl⟩
  obtain ⟨gb, hgb⟩ : ∃ g, g = gltF keys (l'.map Sg.vs) := ⟨_, rfl⟩
  have an1 : bits .andNot .i64 (ga : Int) (g : Int) = 0 := by rw [hga, hg]; exact glt_sub fun x hx => by rw [List.map_append]; exact List.mem_append_left _ hx
  have an2 : bits .andNot .i64 (gb : Int) (g : Int) = 0 := by rw [hgb, hg]; exact glt_sub fun x hx => by rw [List.map_append]; exact List.mem_append_right _ hx
  have HG1 : Hid (∀ V, Below w5.heap.size w5 V → Calls Try.prog 50 #[.slice K nk ck, .slice B3 (n' + m') c3] V (IntPost V (g : Int))) := fun V hV => by
    rw [hg]; exact HG.out B3 _ c3 (l ++ l') V (hw5.trans (hV.mono hw5.size)) (by rw [List.length_append, HN.out, HM.out]) ((HRA.out.below hV).more hV.size) (by have hb := hw5.trans (hV.mono hw5.size); exact (hokA.below hb).more hb.size) (by omega)
  have HG2 : Hid (∀ V, Below w5.heap.size w5 V → Calls Try.prog 50 #[.slice K nk ck, .slice B5 (m' + n') c5] V (IntPost V (g : Int))) := fun V hV => by
    rw [hg, ← gltF_congr hmem]; exact HG.out B5 _ c5 (l' ++ l) V (hw5.trans (hV.mono hw5.size)) (by rw [List.length_append, HN.out, HM.out]) ((HRT.out.below hV).more hV.size) (by have hb := hw5.trans (hV.mono hw5.size); exact (hokT.below hb).more hb.size) (by omega)
  have HG3 : Hid (∀ V, Below w5.heap.size w5 V → Calls Try.prog 50 #[.slice K nk ck, .slice A n' c] V (IntPost V (ga : Int))) := fun V hV => by
    have hb := hw5.trans (hV.mono hw5.size)
    rw [hga]; exact HG.out A _ c l V hb HN.out ((HR.out.below hb).more hb.size) ((HOk.out.below hb).more hb.size) (by omega)
  have HG4 : Hid (∀ V, Below w5.heap.size w5 V → Calls Try.prog 50 #[.slice K nk ck, .slice A' m' c'] V (IntPost V (gb : Int))) := fun V hV => by
    have hb := hw5.trans (hV.mono hw5.size)
    rw [hgb]; exact HG.out A' _ c' l' V hb HM.out ((HR'.out.below hb).more hb.size) ((HOk'.out.below hb).more hb.size) (by omega)
  have HF1 : Hid (∀ V, Below w5.heap.size w5 V → Calls Try.prog 52 #[.slice K nk ck, .slice B3 (n' + m') c3] V (FoundPost V (findS (cvS keys ((l ++ l').map Sg.vs)) 10))) := fun V hV =>
    HF.out B3 _ c3 (l ++ l') V (hw5.trans (hV.mono hw5.size)) (by rw [List.length_append, HN.out, HM.out]) ((HRA.out.below hV).more hV.size) (by have hb := hw5.trans (hV.mono hw5.size); exact (hokA.below hb).more hb.size) (by omega)
  have HF2 : Hid (∀ V, Below w5.heap.size w5 V → Calls Try.prog 52 #[.slice K nk ck, .slice B5 (m' + n') c5] V (FoundPost V (findS (cvS keys ((l ++ l').map Sg.vs)) 10))) := fun V hV => by
    rw [← cvS_congr hmem]; exact HF.out B5 _ c5 (l' ++ l) V (hw5.trans (hV.mono hw5.size)) (by rw [List.length_append, HN.out, HM.out]) ((HRT.out.below hV).more hV.size) (by have hb := hw5.trans (hV.mono hw5.size); exact (hokT.below hb).more hb.size) (by omega)
  have hb5 : Below w5.heap.size w5 w5 := Below.refl _ _
  clear HA5 HOwn3 HOwn5 hokA hokT HRA HRT hmem hg hga hgb HG HF hbw3 hbw4 hbw5 HOwn4 hmade hmade3 hb3 hb0
  try go_frame
  go_upto_region 5 with (go_at_call 50; refine (HG1.out _ hb5).mono ?_; rintro en w6 ⟨rfl, hb6⟩)
  have hbx6 := hb6
  clear hb6
  try go_frame
  go_wp2_with (first
    | (go_at_call 50; refine (HG3.out _ hbx6).mono ?_; rintro en w7 ⟨rfl, hb7⟩; have hbx7 := hbx6.trans (hb7.mono hbx6.size); clear HG3)
    | (go_at_call 50; refine (HG4.out _ hbx7).mono ?_; rintro en w8 ⟨rfl, hb8⟩; have hbx8 := hbx7.trans (hb8.mono hbx7.size); clear HG4)
    | (go_at_call 50; refine (HG2.out _ hbx8).mono ?_; rintro en w9 ⟨rfl, hb9⟩; have hbx9 := hbx8.trans (hb9.mono hbx8.size); clear HG2)
    | (go_at_call 52; refine (HF2.out _ hbx9).mono ?_; rintro en w10 h10; obtain ⟨E, A10, k10, rfl, hb10, hr10, hk10, he10⟩ := h10.nice; have hbx10 := hbx9.trans (hb10.mono hbx9.size); clear h10 HF2)
    | (go_at_call 52; refine (HF1.out _ hbx10).mono ?_; rintro en w11 h11; obtain ⟨F, A11, k11, rfl, hb11, hr11, hk11, he11⟩ := h11.nice; have hbx11 := hbx10.trans (hb11.mono hbx10.size); have hlen : E.length = F.length := (by have := congrArg List.length (he10.trans he11.symm); simpa using this); have hP : Hid (Calls Try.prog 51 #[.slice A10 E.length k10, .slice A11 F.length k11] w11 (BoolPost w11 true)) := (by rw [hlen]; exact pairs9_eq A10 A11 k10 k11 F.length E F w11 hlen rfl ((hr10.below hb11).more hb11.size) hr11 (hk10.below hb11) hk11 (he10.trans he11.symm) (by have := found_len he11; omega)); clear h11 hlen he10 he11 hk10 hk11 hr10 hr11)
    | (go_at_call 51; refine hP.out.mono ?_; rintro en w12 ⟨rfl, hb12⟩; have hbx12 := hbx11.trans (hb12.mono hbx11.size))
    | (go_at_call 53; refine (HAw.out _).mono ?_; rintro en w13 ⟨rfl, hb13⟩))
  go_ret
  have hbw12 := hw5.trans (hbx12.mono hw5.size)
  exact ⟨rfl, hbw12.trans (hb13.mono hbw12.size)⟩

theorem some_sg {w : World} {B' : Nat} {A : Option Addr} {l : List Sg} (h : Rd w B' A (l.flatMap sgc)) (hl : 0 < l.length) : A ≠ none := by
  obtain ⟨b, o, rfl, _⟩ := h.cells (by intro e; have := flat_length sgc 23 l (sgc_len l); rw [e] at this; simp at this; omega)
  simp
theorem cut9_list {w : World} {A : Option Addr} {l : List Sg} {c : Nat} (hr : Rd w w.heap.size A (l.flatMap sgc)) (hc : l.length ≤ c) (W : World) : Calls Try.prog 49 #[.slice A l.length c] W fun e w' => e = .returned (.slice A (min l.length 60) c) ∧ w' = W :=
  cut9_any A l.length c W (fun h => some_sg hr (by omega)) hc
theorem lgrows_any (K A A' : Option Addr) (ck c c' : Nat) (keys : List Nm) (l l' : List Sg) (w : World) (hK : Rd w w.heap.size K (keys.flatMap nmc)) (hr : Rd w w.heap.size A (l.flatMap sgc)) (hok : SgsOk w w.heap.size l) (hc : l.length ≤ c)
    (hr' : Rd w w.heap.size A' (l'.flatMap sgc)) (hok' : SgsOk w w.heap.size l') (hc' : l'.length ≤ c') :
    Calls Try.prog 12 #[.slice K keys.length ck, .slice A l.length c, .slice A' l'.length c'] w fun e w' => e = .returned (.bool true) ∧ Below w.heap.size w w' :=
  lgrows_core K A A' keys.length ck l.length (min l.length 60) c l'.length (min l'.length 60) c' keys (l.take 60) (l'.take 60) w rfl (by rw [List.length_take]; omega) (by rw [List.length_take]; omega) hK (hr.sgTake 60) (hr'.sgTake 60)
    (hok.sub (fun s hs => List.mem_of_mem_take hs)) (hok'.sub (fun s hs => List.mem_of_mem_take hs)) (by omega) (by omega) (cut9_list hr hc) (cut9_list hr' hc')
end Go.Proofs.Ythmecidpjlaonaa
namespace Go.Proofs.Ythmecidpjlaonaa
open Go.RowKit
attribute [local go_sem ↓] Go.wp_at_zero Go.wp_at_succ loadNm loadVt loadSg loadEv
attribute [local go_sem] runNm runVt runSg runEv pickRow_some rowAt_drew rowAt_drewN

def InUpto (l : List Sg) (t : VS) (k : Nat) : Prop := ∃ j x, j < k ∧ l[j]? = some x ∧ x.vs = t
theorem inUpto_next {l : List Sg} {t : VS} {k : Nat} {y : Sg} (hy : l[k]? = some y) : InUpto l t (k + 1) ↔ InUpto l t k ∨ y.vs = t := by
  constructor
  · rintro ⟨j, x, h1, h2, h3⟩
    rcases Nat.lt_or_ge j k with h | h
    · exact .inl ⟨j, x, h, h2, h3⟩
    · have : j = k := by omega
      subst this
      rw [hy] at h2; cases h2
      exact .inr h3
  · rintro (⟨j, x, h1, r⟩ | h)
    · exact ⟨j, x, by omega, r⟩
    · exact ⟨k, y, by omega, hy, h⟩
theorem inUpto_all {l : List Sg} {t : VS} (h : t ∈ l.map Sg.vs) : InUpto l t l.length := by
  obtain ⟨x, hx, e⟩ := List.mem_map.1 h
  obtain ⟨j, hj⟩ := List.mem_iff_getElem?.1 hx
  exact ⟨j, x, (List.getElem?_eq_some_iff.1 hj).1, hj, e⟩
def SRel (E : List Ev) (w1 : World) (mv iv : Value) (wr : World) : Prop :=
  ∃ i : Nat, iv = .int .i64 (i : Int) ∧ i ≤ E.length ∧ mv = .int .i64 ((maskS ((E.take i).map Ev.vs) : Nat) : Int) ∧ Below w1.heap.size w1 wr
def ARel (l : List Sg) (e : Ev) (n : Nat) (w : World) (av bv kv : Value) (wr : World) : Prop :=
  ∃ (k : Nat) (a b : Bool), kv = .int .i64 (k : Int) ∧ av = .bool a ∧ bv = .bool b ∧ k ≤ n ∧ (a = true ↔ InUpto l e.a.vs k) ∧ (b = true ↔ InUpto l e.b.vs k) ∧ Below w.heap.size w wr
theorem Rd.evSigner {w : World} {B' b o : Nat} {l : List Ev} {k : Nat} {e : Ev} (h : Rd w B' (some ⟨b, o, none⟩) (l.flatMap evc)) (hk : l[k]? = some e) : w.cell? ⟨b, o + k * 46 + 4, none⟩ = some (.int .i64 e.a.vote.signer) :=
  (rowAt_back (h.evRow hk)).2 4 _ (by simpa using e.cell_signer)
theorem valid_good {keys : List Nm} {e : Ev} (h : GoodEv keys e) : validF keys e.vs = true := by
  have hs : e.a.vote.signer = e.b.vote.signer := h.conf.2.1.2.2.2.2
  obtain ⟨sn, hsn⟩ := Int.eq_ofNat_of_zero_le h.sgn0
  have hlt : sn < keys.length := by have := h.lt; omega
  have kn : ∀ (v : Vt) (g : List UInt8), v.signer = (sn : Int) → verK keys v g = verS (keys.getD sn Nm.zero) v g := fun v g hv => by
    unfold verK
    rw [hv, decide_eq_true (by omega), decide_eq_true (by omega), Bool.true_and, Bool.true_and, Int.toNat_natCast]
  have ha := h.va
  have hb := h.vb
  rw [hsn, Int.toNat_natCast] at ha hb
  unfold validF
  show (decide (ConfP e.a.vote e.b.vote) && (lessV e.a.vote e.b.vote && (verK keys e.a.vote e.a.sig && verK keys e.b.vote e.b.sig))) = true
  rw [decide_eq_true h.conf, h.less, kn _ _ hsn, kn _ _ (hs ▸ hsn), ha, hb]; rfl

set_option maxRecDepth 100000 in
set_option maxHeartbeats 8000000 in
theorem lsound_core (K A : Option Addr) (nk ck n n' c : Nat) (keys : List Nm) (l : List Sg) (w : World) (hnk : keys.length = nk) (hn : l.length = n') (hK : Rd w w.heap.size K (keys.flatMap nmc)) (hr : Rd w w.heap.size A (l.flatMap sgc))
    (hok : SgsOk w w.heap.size l) (hsmall : n' ≤ 60) (hcut : ∀ W, Calls Try.prog 49 #[.slice A n c] W fun e w' => e = .returned (.slice A n' c) ∧ w' = W) :
    Calls Try.prog 14 #[.slice K nk ck, .slice A n c] w fun e w' => e = .returned (.bool true) ∧ Below w.heap.size w w' := by
  have HCut := Lib.hid hcut
  have HN := Lib.hid hn
  have HNK := Lib.hid hnk
  have HR := Lib.hid hr
  have HOk := Lib.hid hok
  have HAw := Lib.hid awake9_any
  have HF := Lib.hid (pfind_any K A nk ck n' c keys l w hnk hn hK hr hok (by omega))
  have HG : Hid (∀ V, Below w.heap.size w V → Calls Try.prog 50 #[.slice K nk ck, .slice A n' c] V (IntPost V ((gltF keys (l.map Sg.vs) : Nat) : Int))) := fun V hV =>
    glt_any K A nk ck n' c keys l V hnk hn ((hK.below hV).more hV.size) ((hr.below hV).more hV.size) ((hok.below hV).more hV.size) (by omega)
  have HVal : Hid (∀ (e : Ev) (V : World), Below w.heap.size w V → (SgOk V V.heap.size e.a ∧ SgCap e.a) → (SgOk V V.heap.size e.b ∧ SgCap e.b) → validF keys e.vs = true → Calls Try.prog 56 #[.slice K nk ck, e.val] V (BoolPost V true)) := fun e V hV h1 h2 h3 => by
    rw [← h3]; exact pvalid_any K nk ck keys e V hnk ((hK.below hV).more hV.size) h1 h2
  clear hcut hnk hn hK hr hok
  go_enter Try.func14, Try.ntmps14
  go_upto_region 3 with (first
    | (go_at_call 49; refine (HCut.out _).mono ?_; rintro en w2 ⟨rfl, hw2⟩; replace hw2 := hw2.symm; subst hw2; clear HCut)
    | (go_at_call 52; refine HF.out.mono ?_; rintro en w1 h1; obtain ⟨E, A1, k1, rfl, hb1, hrE, hkE, heE⟩ := h1.nice; clear h1 HF))
  have HGood : Hid (∀ e ∈ E, GoodEv keys e) := found_good heE
  have HAsc : Hid (E.Pairwise fun e f => e.a.vote.signer < f.a.vote.signer) := found_asc heE
  have hE10 := found_len heE
  have HMem : Hid (∀ e ∈ E, e.a.vs ∈ l.map Sg.vs ∧ e.b.vs ∈ l.map Sg.vs) := fun e he => by
    have : e.vs ∈ findS (cvS keys (l.map Sg.vs)) 10 := by rw [← heE]; exact List.mem_map_of_mem he
    obtain ⟨s, _, h2⟩ := findS_mem.1 this
    obtain ⟨h3, h4, _⟩ := firstS_some h2
    exact ⟨(cvS_mem h3).1, (cvS_mem h4).1⟩
  have HMask : Hid (maskS (E.map Ev.vs) = gltF keys (l.map Sg.vs)) := by unfold Hid; rw [heE]; rfl
  have HRE := Lib.hid hrE
  have HKE := Lib.hid hkE
  obtain ⟨ne, hne⟩ : ∃ ne, ne = E.length := ⟨_, rfl⟩
  rw [← hne] at hE10 ⊢
  have HNe : Hid (E.length = ne) := hne.symm
  have hml : Hid (∀ i, maskS ((E.take i).map Ev.vs) < 1024) := fun i => maskS_lt fun e he => by
    rw [List.map_take] at he
    have h1 := List.mem_of_mem_take he
    obtain ⟨x, hx, rfl⟩ := List.mem_map.1 h1
    have := HGood.out x hx
    have h9 := this.sgn9
    have h0 := this.sgn0
    show x.a.vote.signer.toNat < 10
    omega
  clear heE hrE hkE hne
  try go_frame
  go_wp2
  go_loopw [6, 7] (fun mv iv wr => SRel E w1 mv iv wr) (fun _ iv _ => ne - (intOf iv).toNat)
  case atStart => exact ⟨0, rfl, Nat.zero_le _, rfl, Below.refl _ _⟩
  case round =>
    obtain ⟨i, rfl, hin, rfl, hbw⟩ := hrel
    rw [HNe.out] at hin
    have hbx := hb1.trans (hbw.mono hb1.size)
    obtain ⟨m, hm⟩ : ∃ m, m = maskS ((E.take i).map Ev.vs) := ⟨_, rfl⟩
    have hm10 : m < 1024 := by rw [hm]; exact hml.out i
    rw [← hm]
    have HM := Lib.hid hm
    clear hm
    by_cases hi : i < ne
    · have di : decide ((i : Int) < (ne : Int)) = true := by simp; omega
      have i0 : (0 : Int) ≤ (i : Int) := by omega
      have i1 : (i : Int) < (ne : Int) := by omega
      obtain ⟨e, he⟩ : ∃ e, E[i]? = some e := ⟨_, List.getElem?_eq_getElem (by rw [HNe.out]; exact hi)⟩
      obtain ⟨b, o, rfl, hoff, _⟩ := HRE.out.cells (by intro h0; have := evc_length E; rw [h0, HNe.out] at this; simp at this; omega)
      have hem := List.mem_of_getElem? he
      have HGe := Lib.hid (HGood.out e hem)
      obtain ⟨sn, hsn⟩ := Int.eq_ofNat_of_zero_le HGe.out.sgn0
      have hs9 : sn ≤ 9 := by have := HGe.out.sgn9; omega
      have HSn := Lib.hid hsn
      have c4 : wr.cell? ⟨b, o + i * 46 + 4, none⟩ = some (.int .i64 (sn : Int)) := by rw [← HSn.out]; exact (HRE.out.below hbw).evSigner he
      have x46 : rowAt wr b (o + i * 46) 46 = some e.cells := (HRE.out.below hbw).evRow he
      have d1 : decide ((sn : Int) < 0) = false := by simp
      have d3 : decide ((10 : Int) ≤ (sn : Int)) = false := by simp; omega
      have HVl : Hid (Calls Try.prog 56 #[.slice K nk ck, e.val] wr (BoolPost wr true)) :=
        HVal.out e wr hbx (((HKE.out.below hbw) e hem).1) (((HKE.out.below hbw) e hem).2) (valid_good HGe.out)
      have HEm := Lib.hid (HMem.out e hem)
      have HEk : Hid (∀ V, Below w1.heap.size w1 V → SgOk V V.heap.size e.a ∧ SgOk V V.heap.size e.b) := fun V hV => ⟨((HKE.out.below hV) e hem).1.1, ((HKE.out.below hV) e hem).2.1⟩
      have HEi := Lib.hid he
      clear hsn hem
      have hprev : 0 < i → ∃ p : Int, wr.cell? ⟨b, o + (i - 1) * 46 + 4, none⟩ = some (.int .i64 p) ∧ p < (sn : Int) := fun h0 => by
        obtain ⟨f, hf⟩ : ∃ f, E[i - 1]? = some f := ⟨_, List.getElem?_eq_getElem (by rw [HNe.out]; omega)⟩
        refine ⟨f.a.vote.signer, (HRE.out.below hbw).evSigner hf, ?_⟩
        obtain ⟨h1, h2⟩ := List.getElem?_eq_some_iff.1 he
        obtain ⟨h3, h4⟩ := List.getElem?_eq_some_iff.1 hf
        have := (List.pairwise_iff_getElem.1 HAsc.out) (i - 1) i h3 h1 (by omega)
        rw [h2, h4] at this
        rw [← HSn.out]; exact this
      clear he
      go_upto_region 8 with fail
      clear c4
      try go_frame
      have hcut8 : Hid (∃ hh : True, hh = hh) := ⟨trivial, rfl⟩
      clear hcut8
      go_cut [60] (fun bv wx => bv = .bool false ∧ Below w1.heap.size w1 wx)
      case first =>
        by_cases h0 : 0 < i
        · obtain ⟨p, hp, hlt⟩ := hprev h0
          obtain ⟨j, hj⟩ : ∃ j, j = i - 1 := ⟨_, rfl⟩
          rw [← hj] at hp
          have hji : (i : Int) - 1 = (j : Int) := by omega
          have j0 : (0 : Int) ≤ (j : Int) := by omega
          have j1 : (j : Int) < (ne : Int) := by omega
          have dp : decide ((0 : Int) < (i : Int)) = true := by simp; omega
          have dq : decide ((sn : Int) ≤ p) = false := by simp; omega
          clear hprev hj
          go_wp2_with (go_at_call 56; refine HVl.out.mono ?_; rintro en w3 ⟨rfl, hb3⟩; have hbw3 := hbw.trans (hb3.mono hbw.size); have hp3 : w3.cell? ⟨b, o + j * 46 + 4, none⟩ = some (.int .i64 p) := (hb3.cell (p := ⟨b, o + j * 46 + 4, none⟩) (Nat.lt_of_lt_of_le hoff hbw.size)).trans hp)
          go_meet
          exact ⟨rfl, hbw3⟩
        · have dp : decide ((0 : Int) < (i : Int)) = false := by simp; omega
          clear hprev
          go_wp2_with (go_at_call 56; refine HVl.out.mono ?_; rintro en w3 ⟨rfl, hb3⟩; have hbw3 := hbw.trans (hb3.mono hbw.size))
          go_meet
          exact ⟨rfl, hbw3⟩
      case rest =>
        clear hprev x46 HVl hbw hbx
        obtain ⟨rfl, hbw⟩ := hcut
        have hbx := hb1.trans (hbw.mono hb1.size)
        go_wp2
        go_loopw [9, 10, 11] (fun av bv kv wr => ARel l e n' w1 av bv kv wr) (fun _ _ kv _ => n' - (intOf kv).toNat)
        case atStart => exact ⟨0, false, false, rfl, rfl, rfl, Nat.zero_le _, ⟨fun h => (by cases h), fun ⟨_, _, h, _⟩ => (by omega)⟩, ⟨fun h => (by cases h), fun ⟨_, _, h, _⟩ => (by omega)⟩, hbw⟩
        case round =>
          clear hbw hbx
          obtain ⟨k, fa, fb, rfl, rfl, rfl, hkn, hA, hB, hbw⟩ := hrel
          have hbx := hb1.trans (hbw.mono hb1.size)
          have HA := Lib.hid hA
          have HB := Lib.hid hB
          clear hA hB
          by_cases hk : k < n'
          · have dk : decide ((k : Int) < (n' : Int)) = true := by simp; omega
            have k0 : (0 : Int) ≤ (k : Int) := by omega
            have k1 : (k : Int) < (n' : Int) := by omega
            obtain ⟨y, hy⟩ : ∃ y, l[k]? = some y := ⟨_, List.getElem?_eq_getElem (by rw [HN.out]; exact hk)⟩
            obtain ⟨bL, oL, rfl, _, _⟩ := HR.out.cells (by intro h0; have := flat_length sgc 23 l (sgc_len l); rw [h0, HN.out] at this; simp at this; omega)
            obtain ⟨ra, hra⟩ : ∃ r, r = decide (y.vs = e.a.vs) := ⟨_, rfl⟩
            obtain ⟨rb, hrb⟩ : ∃ r, r = decide (y.vs = e.b.vs) := ⟨_, rfl⟩
            have hym := List.mem_of_getElem? hy
            have HSa : Hid (∀ V, Below w1.heap.size w1 V → Calls Try.prog 57 #[y.val, e.a.val] V (BoolPost V ra)) := fun V hV => by
              have hV' := hb1.trans (hV.mono hb1.size)
              rw [hra]; exact same9_any y e.a V (((HOk.out y hym).1.below hV').more hV'.size) (HEk.out V hV).1
            have HSb : Hid (∀ V, Below w1.heap.size w1 V → Calls Try.prog 57 #[y.val, e.b.val] V (BoolPost V rb)) := fun V hV => by
              have hV' := hb1.trans (hV.mono hb1.size)
              rw [hrb]; exact same9_any y e.b V (((HOk.out y hym).1.below hV').more hV'.size) (HEk.out V hV).2
            have HNa : Hid ((fa || ra) = true ↔ InUpto l e.a.vs (k + 1)) := by
              unfold Hid
              rw [inUpto_next hy, ← HA.out, Bool.or_eq_true, hra, decide_eq_true_eq]
            have HNb : Hid ((fb || rb) = true ↔ InUpto l e.b.vs (k + 1)) := by
              unfold Hid
              rw [inUpto_next hy, ← HB.out, Bool.or_eq_true, hrb, decide_eq_true_eq]
            have HRows : Hid (∀ V, Below w1.heap.size w1 V → rowAt V bL (oL + k * 23) 23 = some y.cells ∧ rowAt V b (o + i * 46) 23 = some e.a.cells ∧ rowAt V b (o + i * 46 + 23) 23 = some e.b.cells) := fun V hV =>
              ⟨(HR.out.below (hb1.trans (hV.mono hb1.size))).sgRow hy, (HRE.out.below hV).evA HEi.out, (HRE.out.below hV).evB HEi.out⟩
            clear hra hrb hym hy
            go_upto_region 14 with fail
            cases fa with
            | true =>
              cases fb with
              | true =>
                refine wp_region_noPanic ?_
                refine wp_region_held_drew (S := fun w' => rowAt w' bL (oL + k * 23) 23 = some y.cells ∧ rowAt w' b (o + i * 46) 23 = some e.a.cells ∧ rowAt w' b (o + i * 46 + 23) 23 = some e.b.cells) (by kernel_rfl) (HRows.out _ hbw.drew) (fun hHeld => ?_)
                refine wpAnyH_takeD (some 67) (i := 0) (v := ?vh1_0) rfl rfl (by kernel_rfl) (by kernel_rfl) (by kernel_rfl) (fun _ _ _ h => h) (by rfl) ?hh1_0 (by assumption) ?_
                case hh1_0 => (intro wq hSw; (try dsimp only at hSw); go_simp; (try (with_reducible rfl)))
                go_frame
                refine wpAnyH_takeD (some 68) (i := 1) (v := ?vh1_1) rfl rfl (by kernel_rfl) (by kernel_rfl) (by kernel_rfl) (fun _ _ _ h => h) (by rfl) ?hh1_1 (by assumption) ?_
                case hh1_1 => (intro wq hSw; (try dsimp only at hSw); go_simp; (try (with_reducible rfl)))
                go_frame
                refine wpAnyH_skipD (some 69) (i := 2) rfl rfl (by kernel_rfl) (by kernel_rfl) (by kernel_rfl) (fun _ _ _ h => h) (by rfl) (by assumption) ?_
                go_frame
                refine wpAnyH_skipD (some 70) (i := 3) rfl rfl (by kernel_rfl) (by kernel_rfl) (by kernel_rfl) (fun _ _ _ h => h) (by rfl) (by assumption) ?_
                go_frame
                refine wpAnyH_skipD (some 71) (i := 4) rfl rfl (by kernel_rfl) (by kernel_rfl) (by kernel_rfl) (fun _ _ _ h => h) (by rfl) (by assumption) ?_
                go_frame
                refine wpAnyH_skipD (some 72) (i := 5) rfl rfl (by kernel_rfl) (by kernel_rfl) (by kernel_rfl) (fun _ _ _ h => h) (by rfl) (by assumption) ?_
                go_frame
                refine wpAnyH_skipD (some 73) (i := 6) rfl rfl (by kernel_rfl) (by kernel_rfl) (by kernel_rfl) (fun _ _ _ h => h) (by rfl) (by assumption) ?_
                go_frame
                refine wpAnyH_skipD (some 74) (i := 7) rfl rfl (by kernel_rfl) (by kernel_rfl) (by kernel_rfl) (fun _ _ _ h => h) (by rfl) (by assumption) ?_
                go_frame
                refine wpAnyH_skipD (some 75) (i := 8) rfl rfl (by kernel_rfl) (by kernel_rfl) (by kernel_rfl) (fun _ _ _ h => h) (by rfl) (by assumption) ?_
                go_frame
                refine wpAnyH_skipD (some 76) (i := 9) rfl rfl (by kernel_rfl) (by kernel_rfl) (by kernel_rfl) (fun _ _ _ h => h) (by rfl) (by assumption) ?_
                go_frame
                refine wpAnyH_skipD (some 77) (i := 10) rfl rfl (by kernel_rfl) (by kernel_rfl) (by kernel_rfl) (fun _ _ _ h => h) (by rfl) (by assumption) ?_
                go_frame
                refine wpAnyH_takeD (some 80) (i := 13) (v := ?vh1_13) rfl rfl (by kernel_rfl) (by kernel_rfl) (by kernel_rfl) (fun _ _ _ h => h) (by rfl) ?hh1_13 (by assumption) ?_
                case hh1_13 => (intro wq hSw; (try dsimp only at hSw); go_simp; (try (with_reducible rfl)))
                go_frame
                refine wpAnyH_skipD (some 78) (i := 11) rfl rfl (by kernel_rfl) (by kernel_rfl) (by kernel_rfl) (fun _ _ _ h => h) (by rfl) (by assumption) ?_
                go_frame
                refine wpAnyH_takeD (some 79) (i := 12) (v := ?vh1_12) rfl rfl (by kernel_rfl) (by kernel_rfl) (by kernel_rfl) (fun _ _ _ h => h) (by rfl) ?hh1_12 (by assumption) ?_
                case hh1_12 => (intro wq hSw; (try dsimp only at hSw); go_simp; (try (with_reducible rfl)))
                go_frame
                refine wpAnyH_takeD (some 81) (i := 14) (v := ?vh1_14) rfl rfl (by kernel_rfl) (by kernel_rfl) (by kernel_rfl) (fun _ _ _ h => h) (by rfl) ?hh1_14 (by assumption) ?_
                case hh1_14 => (intro wq hSw; (try dsimp only at hSw); go_simp; (try (with_reducible rfl)))
                go_frame
                refine wpAnyH_skipD (some 82) (i := 15) rfl rfl (by kernel_rfl) (by kernel_rfl) (by kernel_rfl) (fun _ _ _ h => h) (by rfl) (by assumption) ?_
                go_frame
                refine wpAnyH_skipD (some 83) (i := 16) rfl rfl (by kernel_rfl) (by kernel_rfl) (by kernel_rfl) (fun _ _ _ h => h) (by rfl) (by assumption) ?_
                go_frame
                refine wpAnyH_skipD (some 84) (i := 17) rfl rfl (by kernel_rfl) (by kernel_rfl) (by kernel_rfl) (fun _ _ _ h => h) (by rfl) (by assumption) ?_
                go_frame
                refine wpAnyH_skipD (some 85) (i := 18) rfl rfl (by kernel_rfl) (by kernel_rfl) (by kernel_rfl) (fun _ _ _ h => h) (by rfl) (by assumption) ?_
                go_frame
                refine wpAnyH_skipD (some 86) (i := 19) rfl rfl (by kernel_rfl) (by kernel_rfl) (by kernel_rfl) (fun _ _ _ h => h) (by rfl) (by assumption) ?_
                go_frame
                refine wpAnyH_skipD (some 87) (i := 20) rfl rfl (by kernel_rfl) (by kernel_rfl) (by kernel_rfl) (fun _ _ _ h => h) (by rfl) (by assumption) ?_
                go_frame
                refine wpAnyH_skipD (some 88) (i := 21) rfl rfl (by kernel_rfl) (by kernel_rfl) (by kernel_rfl) (fun _ _ _ h => h) (by rfl) (by assumption) ?_
                go_frame
                refine wpAnyH_skipD (some 89) (i := 22) rfl rfl (by kernel_rfl) (by kernel_rfl) (by kernel_rfl) (fun _ _ _ h => h) (by rfl) (by assumption) ?_
                go_frame
                refine wpAnyH_skipD (some 90) (i := 23) rfl rfl (by kernel_rfl) (by kernel_rfl) (by kernel_rfl) (fun _ _ _ h => h) (by rfl) (by assumption) ?_
                go_frame
                refine wpAnyH_skipD (some 91) (i := 24) rfl rfl (by kernel_rfl) (by kernel_rfl) (by kernel_rfl) (fun _ _ _ h => h) (by rfl) (by assumption) ?_
                go_frame
                refine wpAnyH_takeD (some 92) (i := 25) (v := ?vh1_25) rfl rfl (by kernel_rfl) (by kernel_rfl) (by kernel_rfl) (fun _ _ _ h => h) (by rfl) ?hh1_25 (by assumption) ?_
                case hh1_25 => (intro wq hSw; (try dsimp only at hSw); go_simp; (try (with_reducible rfl)))
                go_frame
                refine wpAnyH_takeD (some 9) (i := 26) (v := ?vh1_26) rfl rfl (by kernel_rfl) (by kernel_rfl) (by kernel_rfl) (fun _ _ _ h => h) (by rfl) ?hh1_26 (by assumption) ?_
                case hh1_26 => (intro wq hSw; (try dsimp only at hSw); go_simp; (try (with_reducible rfl)))
                go_frame
                refine wpAnyH_takeD (some 10) (i := 27) (v := ?vh1_27) rfl rfl (by kernel_rfl) (by kernel_rfl) (by kernel_rfl) (fun _ _ _ h => h) (by rfl) ?hh1_27 (by assumption) ?_
                case hh1_27 => (intro wq hSw; (try dsimp only at hSw); go_simp; (try (with_reducible rfl)))
                go_frame
                refine wpAnyH_done (by kernel_rfl) ?_ _
                refine NoPanic.normal ?_
                go_wp2_with fail
                go_roundw
                case rel => exact ⟨k + 1, _, _, by go_num, rfl, rfl, by omega, HNa.out, HNb.out, hbw.drew⟩
                case measure => simp [intOf]; omega
              | false =>
                refine wp_region_noPanic ?_
                refine wp_region_held_drew (S := fun w' => rowAt w' bL (oL + k * 23) 23 = some y.cells ∧ rowAt w' b (o + i * 46) 23 = some e.a.cells ∧ rowAt w' b (o + i * 46 + 23) 23 = some e.b.cells) (by kernel_rfl) (HRows.out _ hbw.drew) (fun hHeld => ?_)
                refine wpAnyH_takeD (some 67) (i := 0) (v := ?vh2_0) rfl rfl (by kernel_rfl) (by kernel_rfl) (by kernel_rfl) (fun _ _ _ h => h) (by rfl) ?hh2_0 (by assumption) ?_
                case hh2_0 => (intro wq hSw; (try dsimp only at hSw); go_simp; (try (with_reducible rfl)))
                go_frame
                refine wpAnyH_takeD (some 68) (i := 1) (v := ?vh2_1) rfl rfl (by kernel_rfl) (by kernel_rfl) (by kernel_rfl) (fun _ _ _ h => h) (by rfl) ?hh2_1 (by assumption) ?_
                case hh2_1 => (intro wq hSw; (try dsimp only at hSw); go_simp; (try (with_reducible rfl)))
                go_frame
                refine wpAnyH_skipD (some 69) (i := 2) rfl rfl (by kernel_rfl) (by kernel_rfl) (by kernel_rfl) (fun _ _ _ h => h) (by rfl) (by assumption) ?_
                go_frame
                refine wpAnyH_skipD (some 70) (i := 3) rfl rfl (by kernel_rfl) (by kernel_rfl) (by kernel_rfl) (fun _ _ _ h => h) (by rfl) (by assumption) ?_
                go_frame
                refine wpAnyH_skipD (some 71) (i := 4) rfl rfl (by kernel_rfl) (by kernel_rfl) (by kernel_rfl) (fun _ _ _ h => h) (by rfl) (by assumption) ?_
                go_frame
                refine wpAnyH_skipD (some 72) (i := 5) rfl rfl (by kernel_rfl) (by kernel_rfl) (by kernel_rfl) (fun _ _ _ h => h) (by rfl) (by assumption) ?_
                go_frame
                refine wpAnyH_skipD (some 73) (i := 6) rfl rfl (by kernel_rfl) (by kernel_rfl) (by kernel_rfl) (fun _ _ _ h => h) (by rfl) (by assumption) ?_
                go_frame
                refine wpAnyH_skipD (some 74) (i := 7) rfl rfl (by kernel_rfl) (by kernel_rfl) (by kernel_rfl) (fun _ _ _ h => h) (by rfl) (by assumption) ?_
                go_frame
                refine wpAnyH_skipD (some 75) (i := 8) rfl rfl (by kernel_rfl) (by kernel_rfl) (by kernel_rfl) (fun _ _ _ h => h) (by rfl) (by assumption) ?_
                go_frame
                refine wpAnyH_skipD (some 76) (i := 9) rfl rfl (by kernel_rfl) (by kernel_rfl) (by kernel_rfl) (fun _ _ _ h => h) (by rfl) (by assumption) ?_
                go_frame
                refine wpAnyH_skipD (some 77) (i := 10) rfl rfl (by kernel_rfl) (by kernel_rfl) (by kernel_rfl) (fun _ _ _ h => h) (by rfl) (by assumption) ?_
                go_frame
                refine wpAnyH_takeD (some 80) (i := 13) (v := ?vh2_13) rfl rfl (by kernel_rfl) (by kernel_rfl) (by kernel_rfl) (fun _ _ _ h => h) (by rfl) ?hh2_13 (by assumption) ?_
                case hh2_13 => (intro wq hSw; (try dsimp only at hSw); go_simp; (try (with_reducible rfl)))
                go_frame
                refine wpAnyH_skipD (some 78) (i := 11) rfl rfl (by kernel_rfl) (by kernel_rfl) (by kernel_rfl) (fun _ _ _ h => h) (by rfl) (by assumption) ?_
                go_frame
                refine wpAnyH_takeD (some 79) (i := 12) (v := ?vh2_12) rfl rfl (by kernel_rfl) (by kernel_rfl) (by kernel_rfl) (fun _ _ _ h => h) (by rfl) ?hh2_12 (by assumption) ?_
                case hh2_12 => (intro wq hSw; (try dsimp only at hSw); go_simp; (try (with_reducible rfl)))
                go_frame
                refine wpAnyH_takeD (some 81) (i := 14) (v := ?vh2_14) rfl rfl (by kernel_rfl) (by kernel_rfl) (by kernel_rfl) (fun _ _ _ h => h) (by rfl) ?hh2_14 (by assumption) ?_
                case hh2_14 => (intro wq hSw; (try dsimp only at hSw); go_simp; (try (with_reducible rfl)))
                go_frame
                refine wpAnyH_takeD (some 82) (i := 15) (v := ?vh2_15) rfl rfl (by kernel_rfl) (by kernel_rfl) (by kernel_rfl) (fun _ _ _ h => h) (by rfl) ?hh2_15 (by assumption) ?_
                case hh2_15 => (intro wq hSw; (try dsimp only at hSw); go_simp; (try (with_reducible rfl)))
                go_frame
                refine wpAnyH_takeD (some 83) (i := 16) (v := ?vh2_16) rfl rfl (by kernel_rfl) (by kernel_rfl) (by kernel_rfl) (fun _ _ _ h => h) (by rfl) ?hh2_16 (by assumption) ?_
                case hh2_16 => (intro wq hSw; (try dsimp only at hSw); go_simp; (try (with_reducible rfl)))
                go_frame
                refine wpAnyH_takeD (some 84) (i := 17) (v := ?vh2_17) rfl rfl (by kernel_rfl) (by kernel_rfl) (by kernel_rfl) (fun _ _ _ h => h) (by rfl) ?hh2_17 (by assumption) ?_
                case hh2_17 => (intro wq hSw; (try dsimp only at hSw); go_simp; (try (with_reducible rfl)))
                go_frame
                refine wpAnyH_takeD (some 85) (i := 18) (v := ?vh2_18) rfl rfl (by kernel_rfl) (by kernel_rfl) (by kernel_rfl) (fun _ _ _ h => h) (by rfl) ?hh2_18 (by assumption) ?_
                case hh2_18 => (intro wq hSw; (try dsimp only at hSw); go_simp; (try (with_reducible rfl)))
                go_frame
                refine wpAnyH_takeD (some 86) (i := 19) (v := ?vh2_19) rfl rfl (by kernel_rfl) (by kernel_rfl) (by kernel_rfl) (fun _ _ _ h => h) (by rfl) ?hh2_19 (by assumption) ?_
                case hh2_19 => (intro wq hSw; (try dsimp only at hSw); go_simp; (try (with_reducible rfl)))
                go_frame
                refine wpAnyH_takeD (some 87) (i := 20) (v := ?vh2_20) rfl rfl (by kernel_rfl) (by kernel_rfl) (by kernel_rfl) (fun _ _ _ h => h) (by rfl) ?hh2_20 (by assumption) ?_
                case hh2_20 => (intro wq hSw; (try dsimp only at hSw); go_simp; (try (with_reducible rfl)))
                go_frame
                refine wpAnyH_takeD (some 88) (i := 21) (v := ?vh2_21) rfl rfl (by kernel_rfl) (by kernel_rfl) (by kernel_rfl) (fun _ _ _ h => h) (by rfl) ?hh2_21 (by assumption) ?_
                case hh2_21 => (intro wq hSw; (try dsimp only at hSw); go_simp; (try (with_reducible rfl)))
                go_frame
                refine wpAnyH_takeD (some 89) (i := 22) (v := ?vh2_22) rfl rfl (by kernel_rfl) (by kernel_rfl) (by kernel_rfl) (fun _ _ _ h => h) (by rfl) ?hh2_22 (by assumption) ?_
                case hh2_22 => (intro wq hSw; (try dsimp only at hSw); go_simp; (try (with_reducible rfl)))
                go_frame
                refine wpAnyH_takeD (some 90) (i := 23) (v := ?vh2_23) rfl rfl (by kernel_rfl) (by kernel_rfl) (by kernel_rfl) (fun _ _ _ h => h) (by rfl) ?hh2_23 (by assumption) ?_
                case hh2_23 => (intro wq hSw; (try dsimp only at hSw); go_simp; (try (with_reducible rfl)))
                go_frame
                refine wpAnyH_ready (rs := [24]) (by kernel_rfl) (by simp) ?_
                refine AllReadyH.cons rfl (fun K hK => ?_) AllReadyH.nil
                go_simp
                refine (HSb.out _ hbw.drew).mono ?_; rintro en w4 ⟨rfl, hb4⟩; have hbw4 := hbw.drew.trans (hb4.mono hbw.size)
                go_wp2_with fail
                refine hK.out _ _ (HRows.out _ hbw4) (fun hHeld => ?_)
                clear hK K
                try go_frame
                refine wpAnyH_takeD (some 92) (i := 25) (v := ?vh2_25) rfl rfl (by kernel_rfl) (by kernel_rfl) (by kernel_rfl) (fun _ _ _ h => h) (by rfl) ?hh2_25 (by assumption) ?_
                case hh2_25 => (intro wq hSw; (try dsimp only at hSw); go_simp; (try (with_reducible rfl)))
                go_frame
                refine wpAnyH_takeD (some 9) (i := 26) (v := ?vh2_26) rfl rfl (by kernel_rfl) (by kernel_rfl) (by kernel_rfl) (fun _ _ _ h => h) (by rfl) ?hh2_26 (by assumption) ?_
                case hh2_26 => (intro wq hSw; (try dsimp only at hSw); go_simp; (try (with_reducible rfl)))
                go_frame
                refine wpAnyH_takeD (some 10) (i := 27) (v := ?vh2_27) rfl rfl (by kernel_rfl) (by kernel_rfl) (by kernel_rfl) (fun _ _ _ h => h) (by rfl) ?hh2_27 (by assumption) ?_
                case hh2_27 => (intro wq hSw; (try dsimp only at hSw); go_simp; (try (with_reducible rfl)))
                go_frame
                refine wpAnyH_done (by kernel_rfl) ?_ _
                refine NoPanic.normal ?_
                go_wp2_with fail
                go_roundw
                case rel => exact ⟨k + 1, _, _, by go_num, rfl, rfl, by omega, HNa.out, HNb.out, hbw4⟩
                case measure => simp [intOf]; omega
            | false =>
              cases fb with
              | true =>
                refine wp_region_noPanic ?_
                refine wp_region_held_drew (S := fun w' => rowAt w' bL (oL + k * 23) 23 = some y.cells ∧ rowAt w' b (o + i * 46) 23 = some e.a.cells ∧ rowAt w' b (o + i * 46 + 23) 23 = some e.b.cells) (by kernel_rfl) (HRows.out _ hbw.drew) (fun hHeld => ?_)
                refine wpAnyH_takeD (some 67) (i := 0) (v := ?vh3_0) rfl rfl (by kernel_rfl) (by kernel_rfl) (by kernel_rfl) (fun _ _ _ h => h) (by rfl) ?hh3_0 (by assumption) ?_
                case hh3_0 => (intro wq hSw; (try dsimp only at hSw); go_simp; (try (with_reducible rfl)))
                go_frame
                refine wpAnyH_takeD (some 68) (i := 1) (v := ?vh3_1) rfl rfl (by kernel_rfl) (by kernel_rfl) (by kernel_rfl) (fun _ _ _ h => h) (by rfl) ?hh3_1 (by assumption) ?_
                case hh3_1 => (intro wq hSw; (try dsimp only at hSw); go_simp; (try (with_reducible rfl)))
                go_frame
                refine wpAnyH_takeD (some 69) (i := 2) (v := ?vh3_2) rfl rfl (by kernel_rfl) (by kernel_rfl) (by kernel_rfl) (fun _ _ _ h => h) (by rfl) ?hh3_2 (by assumption) ?_
                case hh3_2 => (intro wq hSw; (try dsimp only at hSw); go_simp; (try (with_reducible rfl)))
                go_frame
                refine wpAnyH_takeD (some 70) (i := 3) (v := ?vh3_3) rfl rfl (by kernel_rfl) (by kernel_rfl) (by kernel_rfl) (fun _ _ _ h => h) (by rfl) ?hh3_3 (by assumption) ?_
                case hh3_3 => (intro wq hSw; (try dsimp only at hSw); go_simp; (try (with_reducible rfl)))
                go_frame
                refine wpAnyH_takeD (some 71) (i := 4) (v := ?vh3_4) rfl rfl (by kernel_rfl) (by kernel_rfl) (by kernel_rfl) (fun _ _ _ h => h) (by rfl) ?hh3_4 (by assumption) ?_
                case hh3_4 => (intro wq hSw; (try dsimp only at hSw); go_simp; (try (with_reducible rfl)))
                go_frame
                refine wpAnyH_takeD (some 72) (i := 5) (v := ?vh3_5) rfl rfl (by kernel_rfl) (by kernel_rfl) (by kernel_rfl) (fun _ _ _ h => h) (by rfl) ?hh3_5 (by assumption) ?_
                case hh3_5 => (intro wq hSw; (try dsimp only at hSw); go_simp; (try (with_reducible rfl)))
                go_frame
                refine wpAnyH_takeD (some 73) (i := 6) (v := ?vh3_6) rfl rfl (by kernel_rfl) (by kernel_rfl) (by kernel_rfl) (fun _ _ _ h => h) (by rfl) ?hh3_6 (by assumption) ?_
                case hh3_6 => (intro wq hSw; (try dsimp only at hSw); go_simp; (try (with_reducible rfl)))
                go_frame
                refine wpAnyH_takeD (some 74) (i := 7) (v := ?vh3_7) rfl rfl (by kernel_rfl) (by kernel_rfl) (by kernel_rfl) (fun _ _ _ h => h) (by rfl) ?hh3_7 (by assumption) ?_
                case hh3_7 => (intro wq hSw; (try dsimp only at hSw); go_simp; (try (with_reducible rfl)))
                go_frame
                refine wpAnyH_takeD (some 75) (i := 8) (v := ?vh3_8) rfl rfl (by kernel_rfl) (by kernel_rfl) (by kernel_rfl) (fun _ _ _ h => h) (by rfl) ?hh3_8 (by assumption) ?_
                case hh3_8 => (intro wq hSw; (try dsimp only at hSw); go_simp; (try (with_reducible rfl)))
                go_frame
                refine wpAnyH_takeD (some 76) (i := 9) (v := ?vh3_9) rfl rfl (by kernel_rfl) (by kernel_rfl) (by kernel_rfl) (fun _ _ _ h => h) (by rfl) ?hh3_9 (by assumption) ?_
                case hh3_9 => (intro wq hSw; (try dsimp only at hSw); go_simp; (try (with_reducible rfl)))
                go_frame
                refine wpAnyH_takeD (some 77) (i := 10) (v := ?vh3_10) rfl rfl (by kernel_rfl) (by kernel_rfl) (by kernel_rfl) (fun _ _ _ h => h) (by rfl) ?hh3_10 (by assumption) ?_
                case hh3_10 => (intro wq hSw; (try dsimp only at hSw); go_simp; (try (with_reducible rfl)))
                go_frame
                refine wpAnyH_takeD (some 80) (i := 13) (v := ?vh3_13) rfl rfl (by kernel_rfl) (by kernel_rfl) (by kernel_rfl) (fun _ _ _ h => h) (by rfl) ?hh3_13 (by assumption) ?_
                case hh3_13 => (intro wq hSw; (try dsimp only at hSw); go_simp; (try (with_reducible rfl)))
                go_frame
                refine wpAnyH_ready (rs := [11]) (by kernel_rfl) (by simp) ?_
                refine AllReadyH.cons rfl (fun K hK => ?_) AllReadyH.nil
                go_simp
                refine (HSa.out _ hbw.drew).mono ?_; rintro en w3 ⟨rfl, hb3⟩; have hbw3 := hbw.drew.trans (hb3.mono hbw.size)
                go_wp2_with fail
                refine hK.out _ _ (HRows.out _ hbw3) (fun hHeld => ?_)
                clear hK K
                try go_frame
                refine wpAnyH_takeD (some 79) (i := 12) (v := ?vh3_12) rfl rfl (by kernel_rfl) (by kernel_rfl) (by kernel_rfl) (fun _ _ _ h => h) (by rfl) ?hh3_12 (by assumption) ?_
                case hh3_12 => (intro wq hSw; (try dsimp only at hSw); go_simp; (try (with_reducible rfl)))
                go_frame
                refine wpAnyH_takeD (some 81) (i := 14) (v := ?vh3_14) rfl rfl (by kernel_rfl) (by kernel_rfl) (by kernel_rfl) (fun _ _ _ h => h) (by rfl) ?hh3_14 (by assumption) ?_
                case hh3_14 => (intro wq hSw; (try dsimp only at hSw); go_simp; (try (with_reducible rfl)))
                go_frame
                refine wpAnyH_skipD (some 82) (i := 15) rfl rfl (by kernel_rfl) (by kernel_rfl) (by kernel_rfl) (fun _ _ _ h => h) (by rfl) (by assumption) ?_
                go_frame
                refine wpAnyH_skipD (some 83) (i := 16) rfl rfl (by kernel_rfl) (by kernel_rfl) (by kernel_rfl) (fun _ _ _ h => h) (by rfl) (by assumption) ?_
                go_frame
                refine wpAnyH_skipD (some 84) (i := 17) rfl rfl (by kernel_rfl) (by kernel_rfl) (by kernel_rfl) (fun _ _ _ h => h) (by rfl) (by assumption) ?_
                go_frame
                refine wpAnyH_skipD (some 85) (i := 18) rfl rfl (by kernel_rfl) (by kernel_rfl) (by kernel_rfl) (fun _ _ _ h => h) (by rfl) (by assumption) ?_
                go_frame
                refine wpAnyH_skipD (some 86) (i := 19) rfl rfl (by kernel_rfl) (by kernel_rfl) (by kernel_rfl) (fun _ _ _ h => h) (by rfl) (by assumption) ?_
                go_frame
                refine wpAnyH_skipD (some 87) (i := 20) rfl rfl (by kernel_rfl) (by kernel_rfl) (by kernel_rfl) (fun _ _ _ h => h) (by rfl) (by assumption) ?_
                go_frame
                refine wpAnyH_skipD (some 88) (i := 21) rfl rfl (by kernel_rfl) (by kernel_rfl) (by kernel_rfl) (fun _ _ _ h => h) (by rfl) (by assumption) ?_
                go_frame
                refine wpAnyH_skipD (some 89) (i := 22) rfl rfl (by kernel_rfl) (by kernel_rfl) (by kernel_rfl) (fun _ _ _ h => h) (by rfl) (by assumption) ?_
                go_frame
                refine wpAnyH_skipD (some 90) (i := 23) rfl rfl (by kernel_rfl) (by kernel_rfl) (by kernel_rfl) (fun _ _ _ h => h) (by rfl) (by assumption) ?_
                go_frame
                refine wpAnyH_skipD (some 91) (i := 24) rfl rfl (by kernel_rfl) (by kernel_rfl) (by kernel_rfl) (fun _ _ _ h => h) (by rfl) (by assumption) ?_
                go_frame
                refine wpAnyH_takeD (some 92) (i := 25) (v := ?vh3_25) rfl rfl (by kernel_rfl) (by kernel_rfl) (by kernel_rfl) (fun _ _ _ h => h) (by rfl) ?hh3_25 (by assumption) ?_
                case hh3_25 => (intro wq hSw; (try dsimp only at hSw); go_simp; (try (with_reducible rfl)))
                go_frame
                refine wpAnyH_takeD (some 9) (i := 26) (v := ?vh3_26) rfl rfl (by kernel_rfl) (by kernel_rfl) (by kernel_rfl) (fun _ _ _ h => h) (by rfl) ?hh3_26 (by assumption) ?_
                case hh3_26 => (intro wq hSw; (try dsimp only at hSw); go_simp; (try (with_reducible rfl)))
                go_frame
                refine wpAnyH_takeD (some 10) (i := 27) (v := ?vh3_27) rfl rfl (by kernel_rfl) (by kernel_rfl) (by kernel_rfl) (fun _ _ _ h => h) (by rfl) ?hh3_27 (by assumption) ?_
                case hh3_27 => (intro wq hSw; (try dsimp only at hSw); go_simp; (try (with_reducible rfl)))
                go_frame
                refine wpAnyH_done (by kernel_rfl) ?_ _
                refine NoPanic.normal ?_
                go_wp2_with fail
                go_roundw
                case rel => exact ⟨k + 1, _, _, by go_num, rfl, rfl, by omega, HNa.out, HNb.out, hbw3⟩
                case measure => simp [intOf]; omega
              | false =>
                refine wp_region_noPanic ?_
                refine wp_region_held_drew (S := fun w' => rowAt w' bL (oL + k * 23) 23 = some y.cells ∧ rowAt w' b (o + i * 46) 23 = some e.a.cells ∧ rowAt w' b (o + i * 46 + 23) 23 = some e.b.cells) (by kernel_rfl) (HRows.out _ hbw.drew) (fun hHeld => ?_)
                refine wpAnyH_takeD (some 67) (i := 0) (v := ?vh4_0) rfl rfl (by kernel_rfl) (by kernel_rfl) (by kernel_rfl) (fun _ _ _ h => h) (by rfl) ?hh4_0 (by assumption) ?_
                case hh4_0 => (intro wq hSw; (try dsimp only at hSw); go_simp; (try (with_reducible rfl)))
                go_frame
                refine wpAnyH_takeD (some 68) (i := 1) (v := ?vh4_1) rfl rfl (by kernel_rfl) (by kernel_rfl) (by kernel_rfl) (fun _ _ _ h => h) (by rfl) ?hh4_1 (by assumption) ?_
                case hh4_1 => (intro wq hSw; (try dsimp only at hSw); go_simp; (try (with_reducible rfl)))
                go_frame
                refine wpAnyH_takeD (some 69) (i := 2) (v := ?vh4_2) rfl rfl (by kernel_rfl) (by kernel_rfl) (by kernel_rfl) (fun _ _ _ h => h) (by rfl) ?hh4_2 (by assumption) ?_
                case hh4_2 => (intro wq hSw; (try dsimp only at hSw); go_simp; (try (with_reducible rfl)))
                go_frame
                refine wpAnyH_takeD (some 70) (i := 3) (v := ?vh4_3) rfl rfl (by kernel_rfl) (by kernel_rfl) (by kernel_rfl) (fun _ _ _ h => h) (by rfl) ?hh4_3 (by assumption) ?_
                case hh4_3 => (intro wq hSw; (try dsimp only at hSw); go_simp; (try (with_reducible rfl)))
                go_frame
                refine wpAnyH_takeD (some 71) (i := 4) (v := ?vh4_4) rfl rfl (by kernel_rfl) (by kernel_rfl) (by kernel_rfl) (fun _ _ _ h => h) (by rfl) ?hh4_4 (by assumption) ?_
                case hh4_4 => (intro wq hSw; (try dsimp only at hSw); go_simp; (try (with_reducible rfl)))
                go_frame
                refine wpAnyH_takeD (some 72) (i := 5) (v := ?vh4_5) rfl rfl (by kernel_rfl) (by kernel_rfl) (by kernel_rfl) (fun _ _ _ h => h) (by rfl) ?hh4_5 (by assumption) ?_
                case hh4_5 => (intro wq hSw; (try dsimp only at hSw); go_simp; (try (with_reducible rfl)))
                go_frame
                refine wpAnyH_takeD (some 73) (i := 6) (v := ?vh4_6) rfl rfl (by kernel_rfl) (by kernel_rfl) (by kernel_rfl) (fun _ _ _ h => h) (by rfl) ?hh4_6 (by assumption) ?_
                case hh4_6 => (intro wq hSw; (try dsimp only at hSw); go_simp; (try (with_reducible rfl)))
                go_frame
                refine wpAnyH_takeD (some 74) (i := 7) (v := ?vh4_7) rfl rfl (by kernel_rfl) (by kernel_rfl) (by kernel_rfl) (fun _ _ _ h => h) (by rfl) ?hh4_7 (by assumption) ?_
                case hh4_7 => (intro wq hSw; (try dsimp only at hSw); go_simp; (try (with_reducible rfl)))
                go_frame
                refine wpAnyH_takeD (some 75) (i := 8) (v := ?vh4_8) rfl rfl (by kernel_rfl) (by kernel_rfl) (by kernel_rfl) (fun _ _ _ h => h) (by rfl) ?hh4_8 (by assumption) ?_
                case hh4_8 => (intro wq hSw; (try dsimp only at hSw); go_simp; (try (with_reducible rfl)))
                go_frame
                refine wpAnyH_takeD (some 76) (i := 9) (v := ?vh4_9) rfl rfl (by kernel_rfl) (by kernel_rfl) (by kernel_rfl) (fun _ _ _ h => h) (by rfl) ?hh4_9 (by assumption) ?_
                case hh4_9 => (intro wq hSw; (try dsimp only at hSw); go_simp; (try (with_reducible rfl)))
                go_frame
                refine wpAnyH_takeD (some 77) (i := 10) (v := ?vh4_10) rfl rfl (by kernel_rfl) (by kernel_rfl) (by kernel_rfl) (fun _ _ _ h => h) (by rfl) ?hh4_10 (by assumption) ?_
                case hh4_10 => (intro wq hSw; (try dsimp only at hSw); go_simp; (try (with_reducible rfl)))
                go_frame
                refine wpAnyH_takeD (some 80) (i := 13) (v := ?vh4_13) rfl rfl (by kernel_rfl) (by kernel_rfl) (by kernel_rfl) (fun _ _ _ h => h) (by rfl) ?hh4_13 (by assumption) ?_
                case hh4_13 => (intro wq hSw; (try dsimp only at hSw); go_simp; (try (with_reducible rfl)))
                go_frame
                refine wpAnyH_ready (rs := [11]) (by kernel_rfl) (by simp) ?_
                refine AllReadyH.cons rfl (fun K hK => ?_) AllReadyH.nil
                go_simp
                refine (HSa.out _ hbw.drew).mono ?_; rintro en w3 ⟨rfl, hb3⟩; have hbw3 := hbw.drew.trans (hb3.mono hbw.size)
                go_wp2_with fail
                refine hK.out _ _ (HRows.out _ hbw3) (fun hHeld => ?_)
                clear hK K
                try go_frame
                refine wpAnyH_takeD (some 79) (i := 12) (v := ?vh4_12) rfl rfl (by kernel_rfl) (by kernel_rfl) (by kernel_rfl) (fun _ _ _ h => h) (by rfl) ?hh4_12 (by assumption) ?_
                case hh4_12 => (intro wq hSw; (try dsimp only at hSw); go_simp; (try (with_reducible rfl)))
                go_frame
                refine wpAnyH_takeD (some 81) (i := 14) (v := ?vh4_14) rfl rfl (by kernel_rfl) (by kernel_rfl) (by kernel_rfl) (fun _ _ _ h => h) (by rfl) ?hh4_14 (by assumption) ?_
                case hh4_14 => (intro wq hSw; (try dsimp only at hSw); go_simp; (try (with_reducible rfl)))
                go_frame
                refine wpAnyH_takeD (some 82) (i := 15) (v := ?vh4_15) rfl rfl (by kernel_rfl) (by kernel_rfl) (by kernel_rfl) (fun _ _ _ h => h) (by rfl) ?hh4_15 (by assumption) ?_
                case hh4_15 => (intro wq hSw; (try dsimp only at hSw); go_simp; (try (with_reducible rfl)))
                go_frame
                refine wpAnyH_takeD (some 83) (i := 16) (v := ?vh4_16) rfl rfl (by kernel_rfl) (by kernel_rfl) (by kernel_rfl) (fun _ _ _ h => h) (by rfl) ?hh4_16 (by assumption) ?_
                case hh4_16 => (intro wq hSw; (try dsimp only at hSw); go_simp; (try (with_reducible rfl)))
                go_frame
                refine wpAnyH_takeD (some 84) (i := 17) (v := ?vh4_17) rfl rfl (by kernel_rfl) (by kernel_rfl) (by kernel_rfl) (fun _ _ _ h => h) (by rfl) ?hh4_17 (by assumption) ?_
                case hh4_17 => (intro wq hSw; (try dsimp only at hSw); go_simp; (try (with_reducible rfl)))
                go_frame
                refine wpAnyH_takeD (some 85) (i := 18) (v := ?vh4_18) rfl rfl (by kernel_rfl) (by kernel_rfl) (by kernel_rfl) (fun _ _ _ h => h) (by rfl) ?hh4_18 (by assumption) ?_
                case hh4_18 => (intro wq hSw; (try dsimp only at hSw); go_simp; (try (with_reducible rfl)))
                go_frame
                refine wpAnyH_takeD (some 86) (i := 19) (v := ?vh4_19) rfl rfl (by kernel_rfl) (by kernel_rfl) (by kernel_rfl) (fun _ _ _ h => h) (by rfl) ?hh4_19 (by assumption) ?_
                case hh4_19 => (intro wq hSw; (try dsimp only at hSw); go_simp; (try (with_reducible rfl)))
                go_frame
                refine wpAnyH_takeD (some 87) (i := 20) (v := ?vh4_20) rfl rfl (by kernel_rfl) (by kernel_rfl) (by kernel_rfl) (fun _ _ _ h => h) (by rfl) ?hh4_20 (by assumption) ?_
                case hh4_20 => (intro wq hSw; (try dsimp only at hSw); go_simp; (try (with_reducible rfl)))
                go_frame
                refine wpAnyH_takeD (some 88) (i := 21) (v := ?vh4_21) rfl rfl (by kernel_rfl) (by kernel_rfl) (by kernel_rfl) (fun _ _ _ h => h) (by rfl) ?hh4_21 (by assumption) ?_
                case hh4_21 => (intro wq hSw; (try dsimp only at hSw); go_simp; (try (with_reducible rfl)))
                go_frame
                refine wpAnyH_takeD (some 89) (i := 22) (v := ?vh4_22) rfl rfl (by kernel_rfl) (by kernel_rfl) (by kernel_rfl) (fun _ _ _ h => h) (by rfl) ?hh4_22 (by assumption) ?_
                case hh4_22 => (intro wq hSw; (try dsimp only at hSw); go_simp; (try (with_reducible rfl)))
                go_frame
                refine wpAnyH_takeD (some 90) (i := 23) (v := ?vh4_23) rfl rfl (by kernel_rfl) (by kernel_rfl) (by kernel_rfl) (fun _ _ _ h => h) (by rfl) ?hh4_23 (by assumption) ?_
                case hh4_23 => (intro wq hSw; (try dsimp only at hSw); go_simp; (try (with_reducible rfl)))
                go_frame
                refine wpAnyH_ready (rs := [24]) (by kernel_rfl) (by simp) ?_
                refine AllReadyH.cons rfl (fun K hK => ?_) AllReadyH.nil
                go_simp
                refine (HSb.out _ hbw3).mono ?_; rintro en w4 ⟨rfl, hb4⟩; have hbw4 := hbw3.trans (hb4.mono hbw3.size)
                go_wp2_with fail
                refine hK.out _ _ (HRows.out _ hbw4) (fun hHeld => ?_)
                clear hK K
                try go_frame
                refine wpAnyH_takeD (some 92) (i := 25) (v := ?vh4_25) rfl rfl (by kernel_rfl) (by kernel_rfl) (by kernel_rfl) (fun _ _ _ h => h) (by rfl) ?hh4_25 (by assumption) ?_
                case hh4_25 => (intro wq hSw; (try dsimp only at hSw); go_simp; (try (with_reducible rfl)))
                go_frame
                refine wpAnyH_takeD (some 9) (i := 26) (v := ?vh4_26) rfl rfl (by kernel_rfl) (by kernel_rfl) (by kernel_rfl) (fun _ _ _ h => h) (by rfl) ?hh4_26 (by assumption) ?_
                case hh4_26 => (intro wq hSw; (try dsimp only at hSw); go_simp; (try (with_reducible rfl)))
                go_frame
                refine wpAnyH_takeD (some 10) (i := 27) (v := ?vh4_27) rfl rfl (by kernel_rfl) (by kernel_rfl) (by kernel_rfl) (fun _ _ _ h => h) (by rfl) ?hh4_27 (by assumption) ?_
                case hh4_27 => (intro wq hSw; (try dsimp only at hSw); go_simp; (try (with_reducible rfl)))
                go_frame
                refine wpAnyH_done (by kernel_rfl) ?_ _
                refine NoPanic.normal ?_
                go_wp2_with fail
                go_roundw
                case rel => exact ⟨k + 1, _, _, by go_num, rfl, rfl, by omega, HNa.out, HNb.out, hbw4⟩
                case measure => simp [intOf]; omega
          · obtain rfl : n' = k := by omega
            have dk : decide ((n' : Int) < (n' : Int)) = false := by simp
            have ha : fa = true := HA.out.2 (by rw [← HN.out]; exact inUpto_all HEm.out.1)
            have hb : fb = true := HB.out.2 (by rw [← HN.out]; exact inUpto_all HEm.out.2)
            subst ha
            subst hb
            have hsh := fun W => shl_one sn hs9 W
            go_wp2
            go_roundw
            case rel =>
              refine ⟨i + 1, by go_num, by rw [HNe.out]; omega, ?_, hbw⟩
              have e1 : maskS ((E.take (i + 1)).map Ev.vs) = m ||| 2 ^ sn := by
                rw [List.take_add_one, HEi.out, List.map_append, maskS_append, ← HM.out]
                show m ||| (2 ^ e.a.vote.signer.toNat ||| 0) = _
                rw [HSn.out, Int.toNat_natCast, Nat.or_zero]
              rw [e1]
              exact or_pow m sn hm10 hs9
            case measure => simp [intOf]; omega
    · obtain rfl : ne = i := by omega
      have hg : ((gltF keys (l.map Sg.vs) : Nat) : Int) = (m : Int) := by
        rw [HM.out, List.take_of_length_le (by rw [HNe.out]; exact Nat.le_refl _), HMask.out]
      rw [hg] at HG
      clear hg
      go_wp2_with (first
        | (go_at_call 50; refine (HG.out _ hbx).mono ?_; rintro en w3 ⟨rfl, hb3⟩)
        | (go_at_call 53; refine (HAw.out _).mono ?_; rintro en w4 ⟨rfl, hb4⟩))
      go_ret
      exact ⟨rfl, (hbx.trans (hb3.mono hbx.size)).trans (hb4.mono (Nat.le_trans hbx.size hb3.size))⟩

theorem lsound_any (K A : Option Addr) (ck c : Nat) (keys : List Nm) (l : List Sg) (w : World) (hK : Rd w w.heap.size K (keys.flatMap nmc)) (hr : Rd w w.heap.size A (l.flatMap sgc)) (hok : SgsOk w w.heap.size l) (hc : l.length ≤ c) :
    Calls Try.prog 14 #[.slice K keys.length ck, .slice A l.length c] w fun e w' => e = .returned (.bool true) ∧ Below w.heap.size w w' :=
  lsound_core K A keys.length ck l.length (min l.length 60) c keys (l.take 60) w rfl (by rw [List.length_take]; omega) hK (hr.sgTake 60) (hok.sub (fun s hs => List.mem_of_mem_take hs)) (by omega) (cut9_list hr hc)
end Go.Proofs.Ythmecidpjlaonaa
namespace Go.Proofs.Ythmecidpjlaonaa.evidenceSound
open Go.ChangeShapes Go.WideShapes Go.ChangeAt Go.RowKit

theorem own : ownKnob Try.prog.godebug = none := by kernel_rfl
theorem laidOut : laidOutB Try.prog = true := by kernel_rfl

set_option maxRecDepth 100000 in
set_option maxHeartbeats 1000000 in
theorem lifted (os : Os) (started : os.Started) (H : Type) (enc : TypeId × Value → H) :
    ReturnsInHanded {} Try.checked os 14 .any (Rows.evidenceSoundSpec.pre6 enc Try.prog Try.f14 Rows.evidenceSoundRow.domain false) (Rows.evidenceSoundSpec.post enc Try.prog Try.f14 false true false false) := by
  refine returnsInHanded_of_change_sized (C := Try.checked) own started (by kernel_rfl) Try.func14
    (ChangeSpec.witness6 (enc := enc) (C := Try.checked) false ⟨#[], #[.slice none 0 0, .slice none 0 0], []⟩ 8 (by kernel_rfl) (by kernel_rfl) (by kernel_rfl) (by kernel_rfl)) ?_
  intro W base args ds gs before hval0 hW hcnd hsz0 _
  have hval : ∀ (j : Nat) t v, Try.f14.params[j]? = some t → args[j]? = some v → Value.okWide Try.prog W .any base t v := hval0
  have hW' := hW
  obtain ⟨p, q, hA0, hV, rfl, hfz, hnd⟩ := hW
  have hA : DataW.TrodAll enc Try.prog W 0 (fun _ => true) true Try.f14.params.toList args.toList ds p := hA0
  have hsz : (DataW.weightsEach Try.prog (Try.f14.params.toList ++ Rows.evidenceSoundSpec.plain.varTypes Try.prog) (ds ++ gs)).all (· ≤ reachBytes) = true := hsz0
  rw [Try.params14] at hA hval hsz
  obtain ⟨v0, vs0, d0, ds0, p0, q0, hargs, rfl, rfl, h0, r0⟩ := trodAll_cons hA
  obtain ⟨v1, vs1, d1, ds1, p1, q1, ha1, rfl, rfl, h1, r1⟩ := trodAll_cons r0
  subst ha1
  obtain ⟨rfl, rfl, rfl⟩ := trodAll_nil r1
  obtain rfl : args = #[v0, v1] := by cases args; simp_all
  obtain ⟨rfl, rfl⟩ := trodVars_none hV
  have hwt : ∀ k ∈ DataW.weightsEach Try.prog ([28, 29] ++ Rows.evidenceSoundSpec.plain.varTypes Try.prog) ([d0, d1] ++ []), k ≤ reachBytes := fun k hk => by simpa using List.all_eq_true.1 hsz k hk
  have k0 := h0
  have lt0 : ∀ x ∈ p0, x.block < W.heap.size := by obtain ⟨m, hm⟩ := k0; exact DataW.trod_lt m _ _ _ hm
  obtain ⟨A0, l0, cap0, hv0, hr0, _, hl0, hm0, _⟩ : ∃ (A : Option Addr) (l : List Nm) (cap : Nat), v0.cells.toList = [.slice A l.length cap] ∧ Rd W W.heap.size A (l.flatMap nmc) ∧ (∀ a ∈ l, True) ∧ l.length ≤ cap ∧ cap ≤ maxLen ∧ l.length * Try.prog.bytesOf 39 ≤ reachBytes := by
    obtain ⟨fuel, hf⟩ := h0
    exact open_list nmc 8 (fun _ => True) Try.underlying28 cells39 (by omega) (fun n cs x h _ => by obtain ⟨nm, e⟩ := open_name h; exact ⟨nm, e, trivial⟩) (fun _ => rfl) hf (mem_weightsEach hwt (j := 0) (t := 28) rfl rfl)
  obtain ⟨a0, len0, c0, rfl⟩ := okWide_slice Try.underlying28 (hval 0 28 v0 rfl rfl)
  simp [Value.cells] at hv0
  obtain ⟨rfl, rfl, rfl⟩ := hv0
  have k1 := h1
  have lt1 : ∀ x ∈ p1, x.block < W.heap.size := by obtain ⟨m, hm⟩ := k1; exact DataW.trod_lt m _ _ _ hm
  obtain ⟨A1, l1, cap1, hv1, hr1, hok1, hl1, hm1, _⟩ : ∃ (A : Option Addr) (l : List Sg) (cap : Nat), v1.cells.toList = [.slice A l.length cap] ∧ Rd W W.heap.size A (l.flatMap sgc) ∧ (∀ a ∈ l, SgOk W W.heap.size a ∧ SgCap a) ∧ l.length ≤ cap ∧ cap ≤ maxLen ∧ l.length * Try.prog.bytesOf 43 ≤ reachBytes := by
    obtain ⟨fuel, hf⟩ := h1
    exact open_list sgc 23 (fun a => SgOk W W.heap.size a ∧ SgCap a) Try.underlying29 cells43 (by omega) (fun n cs x h hw => open_signed2 h hw) (fun e => by simp [sgc, Sg.size_cells]) hf (mem_weightsEach hwt (j := 1) (t := 29) rfl rfl)
  obtain ⟨a1, len1, c1, rfl⟩ := okWide_slice Try.underlying29 (hval 1 29 v1 rfl rfl)
  simp [Value.cells] at hv1
  obtain ⟨rfl, rfl, rfl⟩ := hv1
  clear hA0 hval0
  refine (lsound_any a0 a1 c0 c1 l0 l1 W hr0 hr1 hok1 hl1).mono fun e W' ⟨he, bel⟩ => ?_
  subst he
  exact ⟨_, rfl, _, _, _, [], _, [], hW', trodAll_mk1 (shut_bool Try.underlying4 _), (trodAll_cons_mk (Below.trod laidOut (by kernel_rfl) (of_decide_eq_true (by kernel_rfl)) k0 bel lt0) (trodAll_cons_mk (Below.trod laidOut (by kernel_rfl) (of_decide_eq_true (by kernel_rfl)) k1 bel lt1) trodAll_mk0)), rfl, bel.frame _, fun h => by cases h⟩

theorem over : Rows.evidenceSoundRow.holds Try.pinned (OpenSpec.ofChange Rows.evidenceSoundSpec) :=
  OpenClaim.holds_of_wide 14 Try.f14 rfl rfl rfl rfl rfl rfl rfl ⟨rfl, rfl, rfl, rfl, rfl⟩ rfl rfl rfl rfl rfl (by kernel_rfl) Try.func14 closed
    (of_decide_eq_true (by kernel_rfl)) (by unfold Func.isWrapper; first | (rw [if_pos (by decide +kernel)]; kernel_rfl) | (rw [if_neg (by decide +kernel)]; exact ⟨rfl, rfl⟩))
    (fun os started H enc _ => lifted os started H enc)

theorem proved : Rows.EvidenceSoundSaid := over
end Go.Proofs.Ythmecidpjlaonaa.evidenceSound
