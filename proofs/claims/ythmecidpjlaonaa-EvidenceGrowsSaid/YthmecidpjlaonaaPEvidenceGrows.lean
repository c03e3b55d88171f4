/-
  The closed facts of the row of evidenceGrows, one by one. No condition.
  The law EvidenceGrows returns true and changes nothing that was there. Condition: its arguments lie in memory below the call.
  For all keys and lists of signed votes, the guilty of a list are guilty in every longer list, whatever the order: the law EvidenceGrows returns true. No condition.
-/
import Derived.Test.YthmecidpjlaonaaFactA
import Derived.Test.YthmecidpjlaonaaFactB
import Derived.Test.YthmecidpjlaonaaFactC
import Derived.Test.YthmecidpjlaonaaFactD
import Derived.Test.YthmecidpjlaonaaGPFind
import Derived.Test.YthmecidpjlaonaaGOpen2
import Derived.ShutString
import Derived.ChangeOld
namespace Go.Proofs.Ythmecidpjlaonaa.evidenceGrows
theorem j1 : (Rows.evidenceGrowsRow.wf (OpenSpec.ofChange Rows.evidenceGrowsSpec)) = true := by kernel_rfl
theorem j2 : (laidOutB Try.prog) = true := fact2
theorem j3 : (mapsRowed Try.prog) = true := fact3
theorem j4 : (Try.f12.params.all (Try.prog.readableRec ·)) = true := by kernel_rfl
theorem j5 : (namedTie Try.prog Rows.evidenceGrowsRow.named Rows.evidenceGrowsSpec.vars) = true := by kernel_rfl
theorem j6 : ((Rows.evidenceGrowsRow.stops == [])) = true := by kernel_rfl
theorem j7 : ((Try.prog.stops == [])) = true := by kernel_rfl
theorem j8 : ((Rows.evidenceGrowsRow.knobs == [])) = true := by kernel_rfl
theorem j9 : ((Try.prog.stopKnobs == [])) = true := by kernel_rfl
theorem j10 : ((Rows.evidenceGrowsRow.inPlace == Try.prog.inPlace 12)) = true := by kernel_rfl
theorem j11 : ((Rows.evidenceGrowsRow.unfollowed == Try.prog.unfollowed 12)) = true := by kernel_rfl
theorem j12 : ((Rows.evidenceGrowsRow.recurses == Try.prog.recurses 12)) = true := by kernel_rfl
theorem j13 : ((Rows.evidenceGrowsRow.named == Try.prog.varsNamed 12)) = true := by kernel_rfl
theorem j14 : ((Rows.evidenceGrowsRow.maps == (Try.f12.params.toList ++ Rows.evidenceGrowsSpec.plain.varTypes Try.prog).any (Try.prog.mapsRec ·))) = true := by kernel_rfl
theorem j15 : ((Rows.evidenceGrowsRow.ifaces == (Try.f12.params.toList ++ Rows.evidenceGrowsSpec.plain.varTypes Try.prog).any (Try.prog.ifacesRec ·))) = true := by kernel_rfl
theorem j16 : ((Rows.evidenceGrowsRow.mapsOut == Try.prog.mapsAmong Try.f12.resultTypes.toList)) = true := by kernel_rfl
theorem j17 : ((Rows.evidenceGrowsRow.loops == (Try.f12.params.toList ++ Rows.evidenceGrowsSpec.plain.varTypes Try.prog).any (Try.prog.loopsFrom ·))) = true := by kernel_rfl
theorem j18 : ((Rows.evidenceGrowsRow.wideKeys == (Try.f12.params.toList ++ Rows.evidenceGrowsSpec.plain.varTypes Try.prog ++ Try.f12.resultTypes.toList).any (Try.prog.wideKeysFrom ·))) = true := by kernel_rfl
theorem j19 : (Rows.evidenceGrowsSpec.vars.all (Try.prog.varReadable ·)) = true := by kernel_rfl
theorem j20 : (Try.f12.resultTypes.all (fun t => Try.prog.readableRec t && decide (t < Try.prog.types.size))) = true := by kernel_rfl
theorem j21 : ((Rows.evidenceGrowsRow.ifacesOut == Try.f12.resultTypes.toList.any (Try.prog.ifacesRec ·))) = true := by kernel_rfl
theorem j22 : ((Rows.evidenceGrowsRow.loopsOut == Try.f12.resultTypes.toList.any (Try.prog.loopsFrom ·))) = true := by kernel_rfl
theorem j23 : ((Rows.evidenceGrowsRow.plainKeys == Try.prog.plainKeys)) = true := by kernel_rfl
theorem j24 : (Rows.evidenceGrowsRow.shortTexts.isNone) = true := by kernel_rfl
theorem j25 : (Try.prog.stopsHeard) = true := fact25
theorem j26 : (Try.prog.mayEnter) = true := fact26
theorem j27 : ((Rows.evidenceGrowsRow.lifted == Try.prog.liftsFinal)) = true := fact27
theorem j28 : ((Try.prog.make == some Rows.evidenceGrowsRow.make)) = true := fact28
theorem j29 : ((Rows.evidenceGrowsRow.kinds == (if Rows.evidenceGrowsRow.domain.isEmpty then [] else Try.f12.params.toList.map fun t => match Try.prog.underlying t with | some (.int k) => some k | _ => none))) = true := by kernel_rfl
theorem j30 : ((Rows.evidenceGrowsRow.pinned == Rows.evidenceGrowsRow.pinnedBy)) = true := by kernel_rfl
theorem j31 : ((Rows.evidenceGrowsRow.veiled == (Try.f12.params.toList ++ Rows.evidenceGrowsSpec.plain.varTypes Try.prog ++ Try.f12.resultTypes.toList).any (Try.prog.veiledRec ·))) = true := by kernel_rfl
theorem j32 : (Rows.evidenceGrowsRow.veiledFits Try.prog Try.f12.params.toList (Try.f12.params.toList ++ Rows.evidenceGrowsSpec.plain.varTypes Try.prog ++ Try.f12.resultTypes.toList)) = true := by kernel_rfl
set_option maxRecDepth 100000 in
theorem closed : joinedFacts Try.prog 12 Try.f12 Rows.evidenceGrowsSpec Rows.evidenceGrowsRow = true := by
  unfold joinedFacts
  exact and_t (and_t (and_t (and_t (and_t (and_t (and_t (and_t (and_t (and_t (and_t (and_t (and_t (and_t (and_t (and_t (and_t (and_t (and_t (and_t (and_t (and_t (and_t (and_t (and_t (and_t (and_t (and_t (and_t (and_t (and_t (j1) j2) j3) j4) j5) j6) j7) j8) j9) j10) j11) j12) j13) j14) j15) j16) j17) j18) j19) j20) j21) j22) j23) j24) j25) j26) j27) j28) j29) j30) j31) j32
end Go.Proofs.Ythmecidpjlaonaa.evidenceGrows
namespace Go.Proofs.Ythmecidpjlaonaa
open Go.RowKit
attribute [local go_sem ↓] Go.wp_at_zero Go.wp_at_succ loadNm loadVt loadSg loadEv
attribute [local go_sem] runNm runVt runSg runEv pickRow_some rowAt_drew rowAt_drewN

theorem andNot_sub (a g : Nat) (h : ∀ i, a.testBit i = true → g.testBit i = true) : bits .andNot .i64 (a : Int) (g : Int) = 0 := by
  have e : (BitVec.ofInt 64 (a : Int) &&& ~~~(BitVec.ofInt 64 (g : Int))) = 0#64 := by
    rw [BitVec.ofInt_natCast, BitVec.ofInt_natCast]
    apply BitVec.eq_of_getLsbD_eq
    intro i hi
    rw [BitVec.getLsbD_and, BitVec.getLsbD_not, BitVec.getLsbD_ofNat, BitVec.getLsbD_ofNat, BitVec.getLsbD_zero]
    cases ha : a.testBit i with
    | false => simp
    | true => rw [h i ha]; simp [hi]
  show IntKind.i64.wrap ((BitVec.ofInt 64 (a : Int) &&& ~~~(BitVec.ofInt 64 (g : Int))).toNat : Int) = 0
  rw [e]; rfl
set_option maxRecDepth 100000 in
theorem cut9_any (A : Option Addr) (n c : Nat) (w : World) (hA : 60 < n → A ≠ none) (hc : n ≤ c) : Calls Try.prog 49 #[.slice A n c] w fun e w' => e = .returned (.slice A (min n 60) c) ∧ w' = w := by
  by_cases h : 60 < n
  · have d : decide ((60 : Int) < (n : Int)) = true := by simp; omega
    have e : min n 60 = 60 := by omega
    have k : (60 : Int) ≤ (c : Int) := by omega
    rw [e]
    clear e
    rcases A with _ | ⟨b, o, p⟩
    · exact absurd rfl (hA h)
    · go_enter Try.func49, Try.ntmps49
      go_wp2
      go_ret
      exact ⟨rfl, rfl⟩
  · have d : decide ((60 : Int) < (n : Int)) = false := by simp; omega
    have e : min n 60 = n := by omega
    rw [e]
    clear e
    go_enter Try.func49, Try.ntmps49
    go_wp2
    go_ret
    exact ⟨rfl, rfl⟩
theorem glt_sub {keys : List Nm} {l l' : List VS} (h : ∀ x ∈ l, x ∈ l') : bits .andNot .i64 ((gltF keys l : Nat) : Int) ((gltF keys l' : Nat) : Int) = 0 :=
  andNot_sub _ _ fun i hi => (gltF_bit keys l' i).2 (((gltF_bit keys l i).1 hi).mono h)
/-- A list that was put together in memory of the call's own. -/
theorem own_sgs {w W : World} {b n : Nat} {v : Value} {L : List Sg} (h : W.ownsRow b 43 23 v n (L.flatMap sgc)) (hn : n = L.length) (hb : Below w.heap.size w W) (hs : SgsOk w w.heap.size L) : SlOk W L v :=
  own_slice h hn ((hs.below hb).more hb.size)
theorem FoundPost.nice {w : World} {c : List ES} {e : Ending} {w' : World} (h : FoundPost w c e w') : ∃ (E : List Ev) (A : Option Addr) (k : Nat), e = .returned (.slice A E.length k) ∧ Below w.heap.size w w' ∧ Rd w' w'.heap.size A (E.flatMap evc) ∧ EvsCap w' E ∧ E.map Ev.vs = c := by
  obtain ⟨E, v, rfl, hb, hown, hk, he⟩ := h
  obtain ⟨A, k, rfl, hr, _, _⟩ := own_evs hown rfl
  exact ⟨E, A, k, rfl, hb, hr, hk, he⟩

set_option maxRecDepth 100000 in
set_option maxHeartbeats 8000000 in
theorem lgrows_core (K A A' : Option Addr) (nk ck n n' c m m' c' : Nat) (keys : List Nm) (l l' : List Sg) (w : World) (hnk : keys.length = nk) (hn : l.length = n') (hm : l'.length = m') (hK : Rd w w.heap.size K (keys.flatMap nmc)) (hr : Rd w w.heap.size A (l.flatMap sgc)) (hr' : Rd w w.heap.size A' (l'.flatMap sgc))
    (hok : SgsOk w w.heap.size l) (hok' : SgsOk w w.heap.size l') (hsmall : n' ≤ 60) (hsmall' : m' ≤ 60) (hcut : ∀ W, Calls Try.prog 49 #[.slice A n c] W fun e w' => e = .returned (.slice A n' c) ∧ w' = W) (hcut' : ∀ W, Calls Try.prog 49 #[.slice A' m c'] W fun e w' => e = .returned (.slice A' m' c') ∧ w' = W) :
    Calls Try.prog 12 #[.slice K nk ck, .slice A n c, .slice A' m c'] w fun e w' => e = .returned (.bool true) ∧ Below w.heap.size w w' := by
  have HCut := Lib.hid hcut
  have HCut' := Lib.hid hcut'
  have HN := Lib.hid hn
  have HM := Lib.hid hm
  have HR := Lib.hid hr
  have HR' := Lib.hid hr'
  have HOk := Lib.hid hok
  have HOk' := Lib.hid hok'
  have HAw := Lib.hid awake9_any
  have HG : Hid (∀ (B : Option Addr) (k kc : Nat) (L : List Sg) (V : World), Below w.heap.size w V → L.length = k → Rd V V.heap.size B (L.flatMap sgc) → SgsOk V V.heap.size L → k ≤ 1000000 → Calls Try.prog 50 #[.slice K nk ck, .slice B k kc] V (IntPost V ((gltF keys (L.map Sg.vs) : Nat) : Int))) :=
    fun B k kc L V hV h1 h2 h3 h4 => glt_any K B nk ck k kc keys L V hnk h1 ((hK.below hV).more hV.size) h2 h3 h4
  have HF : Hid (∀ (B : Option Addr) (k kc : Nat) (L : List Sg) (V : World), Below w.heap.size w V → L.length = k → Rd V V.heap.size B (L.flatMap sgc) → SgsOk V V.heap.size L → k ≤ 1000000 → Calls Try.prog 52 #[.slice K nk ck, .slice B k kc] V (FoundPost V (findS (cvS keys (L.map Sg.vs)) 10))) :=
    fun B k kc L V hV h1 h2 h3 h4 => pfind_any K B nk ck k kc keys L V hnk h1 ((hK.below hV).more hV.size) h2 h3 h4
  clear hcut hcut' hnk hn hm hK hr hr' hok hok'
  have hb0 : Below w.heap.size w w := Below.refl _ _
  go_enter Try.func12, Try.ntmps12
  go_upto_region 2 with (first
    | (go_at_call 49; refine (HCut.out _).mono ?_; rintro en w2 ⟨rfl, hw2⟩; replace hw2 := hw2.symm; subst hw2; clear HCut)
    | (go_at_call 49; refine (HCut'.out _).mono ?_; rintro en w2 ⟨rfl, hw2⟩; replace hw2 := hw2.symm; subst hw2))
  try go_frame
  have hmade : Hid ((w.alloc (.cells #[] 43)).ownsRow w.heap.size 43 23 (.slice (some ⟨w.heap.size, 0, none⟩) 0 0) 0 []) := World.ownsRow_made w #[] 0 (Nat.le_refl _) (by unfold maxLen; omega) rfl
  go_upto_region 3 with (first
    | (at_builtin; refine wpList_app rfl (.tmp 14) (.tmp 15) _ rfl w.heap.size 43 (.agg zeroSc) 23 88 Try.underlying29 info_signed rfl (by decide) (.slice (some ⟨w.heap.size, 0, none⟩) 0 0) 0 [] rfl hmade.out w.heap.size A n' c (l.flatMap sgc) rfl (by rw [flat_length sgc 23 l (sgc_len l), HN.out]) (HR.out.alloc (Nat.le_refl _) _) (fun u hu => by obtain ⟨s, _, hs⟩ := List.mem_flatMap.1 hu; exact s.one u hs) (by omega) (by unfold maxLen; omega) (by simp) ?_; intro v2 w2 hown2 hg2 hat2; rw [Nat.zero_add, List.nil_append] at hown2; have hbw2 : Below w.heap.size w w2 := below_own (hb0.alloc (Nat.le_refl _) _) hmade.out hg2; have HOwn2 := Lib.hid hown2; clear hown2 hg2 hat2)
    | (at_builtin; refine wpList_app rfl (.tmp 16) (.tmp 17) _ rfl w.heap.size 43 (.agg zeroSc) 23 88 Try.underlying29 info_signed rfl (by decide) v2 n' (l.flatMap sgc) rfl HOwn2.out w.heap.size A' m' c' (l'.flatMap sgc) rfl (by rw [flat_length sgc 23 l' (sgc_len l'), HM.out]) (HR'.out.below hbw2) (fun u hu => by obtain ⟨s, _, hs⟩ := List.mem_flatMap.1 hu; exact s.one u hs) (by omega) (by unfold maxLen; omega) hbw2.size ?_; intro v3 w3 hown3 hg3 hat3; rw [← List.flatMap_append] at hown3; have hbw3 : Below w.heap.size w w3 := below_own hbw2 HOwn2.out hg3; have HOwn3 := Lib.hid hown3; clear hown3 hg3 hat3))
  obtain ⟨B3, c3, hv3⟩ := own_form HOwn3.out
  subst hv3
  clear HOwn2 hbw2
  try go_frame
  have hmade3 : Hid ((w3.alloc (.cells #[] 43)).ownsRow w3.heap.size 43 23 (.slice (some ⟨w3.heap.size, 0, none⟩) 0 0) 0 []) := World.ownsRow_made w3 #[] 0 (Nat.le_refl _) (by unfold maxLen; omega) rfl
  have hb3 : Below w3.heap.size w3 w3 := Below.refl _ _
  go_upto_region 4 with (first
    | (at_builtin; refine wpList_app rfl (.tmp 19) (.tmp 20) _ rfl w3.heap.size 43 (.agg zeroSc) 23 88 Try.underlying29 info_signed rfl (by decide) (.slice (some ⟨w3.heap.size, 0, none⟩) 0 0) 0 [] rfl hmade3.out w3.heap.size A' m' c' (l'.flatMap sgc) rfl (by rw [flat_length sgc 23 l' (sgc_len l'), HM.out]) (((HR'.out.below hbw3).more hbw3.size).alloc (Nat.le_refl _) _) (fun u hu => by obtain ⟨s, _, hs⟩ := List.mem_flatMap.1 hu; exact s.one u hs) (by omega) (by unfold maxLen; omega) (by simp) ?_; intro v4 w4 hown4 hg4 hat4; rw [Nat.zero_add, List.nil_append] at hown4; have hbw4 : Below w3.heap.size w3 w4 := below_own (hb3.alloc (Nat.le_refl _) _) hmade3.out hg4; have HOwn4 := Lib.hid hown4; clear hown4 hg4 hat4)
    | (at_builtin; refine wpList_app rfl (.tmp 21) (.tmp 22) _ rfl w3.heap.size 43 (.agg zeroSc) 23 88 Try.underlying29 info_signed rfl (by decide) v4 m' (l'.flatMap sgc) rfl HOwn4.out w3.heap.size A n' c (l.flatMap sgc) rfl (by rw [flat_length sgc 23 l (sgc_len l), HN.out]) (((HR.out.below hbw3).more hbw3.size).below hbw4) (fun u hu => by obtain ⟨s, _, hs⟩ := List.mem_flatMap.1 hu; exact s.one u hs) (by omega) (by unfold maxLen; omega) hbw4.size ?_; intro v5 w5 hown5 hg5 hat5; rw [← List.flatMap_append] at hown5; have hbw5 : Below w3.heap.size w3 w5 := below_own hbw4 HOwn4.out hg5; have HOwn5 := Lib.hid hown5; clear hown5 hg5 hat5))
  obtain ⟨B5, c5, hv5⟩ := own_form HOwn5.out
  subst hv5
  have HA5 : Hid (w5.ownsRow w.heap.size 43 23 (.slice B3 (n' + m') c3) (n' + m') ((l ++ l').flatMap sgc)) := own_below HOwn3.out hbw5 (Nat.le_refl _)
  have hw5 : Below w.heap.size w w5 := hbw3.trans (hbw5.mono hbw3.size)
  have hokA : SgsOk w w.heap.size (l ++ l') := fun s hs => by rcases List.mem_append.1 hs with hs | hs; exact HOk.out s hs; exact HOk'.out s hs
  have hokT : SgsOk w w.heap.size (l' ++ l) := fun s hs => by rcases List.mem_append.1 hs with hs | hs; exact HOk'.out s hs; exact HOk.out s hs
  have HRA := Lib.hid (Rd.of_own HA5.out)
  have HRT := Lib.hid (Rd.of_own HOwn5.out)
  have hmem : ∀ x, x ∈ (l' ++ l).map Sg.vs ↔ x ∈ (l ++ l').map Sg.vs := fun x => by rw [List.map_append, List.map_append, List.mem_append, List.mem_append]; exact Or.comm
  obtain ⟨g, hg⟩ : ∃ g, g = gltF keys ((l ++ l').map Sg.vs) := ⟨_, rfl⟩
  obtain ⟨ga, hga⟩ : ∃ g, g = gltF keys (l.map Sg.vs) := ⟨_, rfl⟩
  obtain ⟨gb, hgb⟩ : ∃ g, g = gltF keys (l'.map Sg.vs) := ⟨_, rfl⟩
  have an1 : bits .andNot .i64 (ga : Int) (g : Int) = 0 := by rw [hga, hg]; exact glt_sub fun x hx => by rw [List.map_append]; exact List.mem_append_left _ hx
  have an2 : bits .andNot .i64 (gb : Int) (g : Int) = 0 := by rw [hgb, hg]; exact glt_sub fun x hx => by rw [List.map_append]; exact List.mem_append_right _ hx
  have HG1 : Hid (∀ V, Below w5.heap.size w5 V → Calls Try.prog 50 #[.slice K nk ck, .slice B3 (n' + m') c3] V (IntPost V (g : Int))) := fun V hV => by
    rw [hg]; exact HG.out B3 _ c3 (l ++ l') V (hw5.trans (hV.mono hw5.size)) (by rw [List.length_append, HN.out, HM.out]) ((HRA.out.below hV).more hV.size) (by have hb := hw5.trans (hV.mono hw5.size); exact (hokA.below hb).more hb.size) (by omega)
  have HG2 : Hid (∀ V, Below w5.heap.size w5 V → Calls Try.prog 50 #[.slice K nk ck, .slice B5 (m' + n') c5] V (IntPost V (g : Int))) := fun V hV => by
    rw [hg, ← gltF_congr hmem]; exact HG.out B5 _ c5 (l' ++ l) V (hw5.trans (hV.mono hw5.size)) (by rw [List.length_append, HN.out, HM.out]) ((HRT.out.below hV).more hV.size) (by have hb := hw5.trans (hV.mono hw5.size); exact (hokT.below hb).more hb.size) (by omega)
  have HG3 : Hid (∀ V, Below w5.heap.size w5 V → Calls Try.prog 50 #[.slice K nk ck, .slice A n' c] V (IntPost V (ga : Int))) := fun V hV => by
    have hb := hw5.trans (hV.mono hw5.size)
    rw [hga]; exact HG.out A _ c l V hb HN.out ((HR.out.below hb).more hb.size) ((HOk.out.below hb).more hb.size) (by omega)
  have HG4 : Hid (∀ V, Below w5.heap.size w5 V → Calls Try.prog 50 #[.slice K nk ck, .slice A' m' c'] V (IntPost V (gb : Int))) := fun V hV => by
    have hb := hw5.trans (hV.mono hw5.size)
    rw [hgb]; exact HG.out A' _ c' l' V hb HM.out ((HR'.out.below hb).more hb.size) ((HOk'.out.below hb).more hb.size) (by omega)
  have HF1 : Hid (∀ V, Below w5.heap.size w5 V → Calls Try.prog 52 #[.slice K nk ck, .slice B3 (n' + m') c3] V (FoundPost V (findS (cvS keys ((l ++ l').map Sg.vs)) 10))) := fun V hV =>
    HF.out B3 _ c3 (l ++ l') V (hw5.trans (hV.mono hw5.size)) (by rw [List.length_append, HN.out, HM.out]) ((HRA.out.below hV).more hV.size) (by have hb := hw5.trans (hV.mono hw5.size); exact (hokA.below hb).more hb.size) (by omega)
  have HF2 : Hid (∀ V, Below w5.heap.size w5 V → Calls Try.prog 52 #[.slice K nk ck, .slice B5 (m' + n') c5] V (FoundPost V (findS (cvS keys ((l ++ l').map Sg.vs)) 10))) := fun V hV => by
    rw [← cvS_congr hmem]; exact HF.out B5 _ c5 (l' ++ l) V (hw5.trans (hV.mono hw5.size)) (by rw [List.length_append, HN.out, HM.out]) ((HRT.out.below hV).more hV.size) (by have hb := hw5.trans (hV.mono hw5.size); exact (hokT.below hb).more hb.size) (by omega)
  have hb5 : Below w5.heap.size w5 w5 := Below.refl _ _
  clear HA5 HOwn3 HOwn5 hokA hokT HRA HRT hmem hg hga hgb HG HF hbw3 hbw4 hbw5 HOwn4 hmade hmade3 hb3 hb0
  try go_frame
  go_upto_region 5 with (go_at_call 50; refine (HG1.out _ hb5).mono ?_; rintro en w6 ⟨rfl, hb6⟩)
  have hbx6 := hb6
  clear hb6
  try go_frame
  go_wp2_with (first
    | (go_at_call 50; refine (HG3.out _ hbx6).mono ?_; rintro en w7 ⟨rfl, hb7⟩; have hbx7 := hbx6.trans (hb7.mono hbx6.size); clear HG3)
    | (go_at_call 50; refine (HG4.out _ hbx7).mono ?_; rintro en w8 ⟨rfl, hb8⟩; have hbx8 := hbx7.trans (hb8.mono hbx7.size); clear HG4)
    | (go_at_call 50; refine (HG2.out _ hbx8).mono ?_; rintro en w9 ⟨rfl, hb9⟩; have hbx9 := hbx8.trans (hb9.mono hbx8.size); clear HG2)
    | (go_at_call 52; refine (HF2.out _ hbx9).mono ?_; rintro en w10 h10; obtain ⟨E, A10, k10, rfl, hb10, hr10, hk10, he10⟩ := h10.nice; have hbx10 := hbx9.trans (hb10.mono hbx9.size); clear h10 HF2)
    | (go_at_call 52; refine (HF1.out _ hbx10).mono ?_; rintro en w11 h11; obtain ⟨F, A11, k11, rfl, hb11, hr11, hk11, he11⟩ := h11.nice; have hbx11 := hbx10.trans (hb11.mono hbx10.size); have hlen : E.length = F.length := (by have := congrArg List.length (he10.trans he11.symm); simpa using this); have hP : Hid (Calls Try.prog 51 #[.slice A10 E.length k10, .slice A11 F.length k11] w11 (BoolPost w11 true)) := (by rw [hlen]; exact pairs9_eq A10 A11 k10 k11 F.length E F w11 hlen rfl ((hr10.below hb11).more hb11.size) hr11 (hk10.below hb11) hk11 (he10.trans he11.symm) (by have := found_len he11; omega)); clear h11 hlen he10 he11 hk10 hk11 hr10 hr11)
    | (go_at_call 51; refine hP.out.mono ?_; rintro en w12 ⟨rfl, hb12⟩; have hbx12 := hbx11.trans (hb12.mono hbx11.size))
    | (go_at_call 53; refine (HAw.out _).mono ?_; rintro en w13 ⟨rfl, hb13⟩))
  go_ret
  have hbw12 := hw5.trans (hbx12.mono hw5.size)
  exact ⟨rfl, hbw12.trans (hb13.mono hbw12.size)⟩

theorem some_sg {w : World} {B' : Nat} {A : Option Addr} {l : List Sg} (h : Rd w B' A (l.flatMap sgc)) (hl : 0 < l.length) : A ≠ none := by
  obtain ⟨b, o, rfl, _⟩ := h.cells (by intro e; have := flat_length sgc 23 l (sgc_len l); rw [e] at this; simp at this; omega)
  simp
theorem cut9_list {w : World} {A : Option Addr} {l : List Sg} {c : Nat} (hr : Rd w w.heap.size A (l.flatMap sgc)) (hc : l.length ≤ c) (W : World) : Calls Try.prog 49 #[.slice A l.length c] W fun e w' => e = .returned (.slice A (min l.length 60) c) ∧ w' = W :=
  cut9_any A l.length c W (fun h => some_sg hr (by omega)) hc
theorem lgrows_any (K A A' : Option Addr) (ck c c' : Nat) (keys : List Nm) (l l' : List Sg) (w : World) (hK : Rd w w.heap.size K (keys.flatMap nmc)) (hr : Rd w w.heap.size A (l.flatMap sgc)) (hok : SgsOk w w.heap.size l) (hc : l.length ≤ c)
    (hr' : Rd w w.heap.size A' (l'.flatMap sgc)) (hok' : SgsOk w w.heap.size l') (hc' : l'.length ≤ c') :
    Calls Try.prog 12 #[.slice K keys.length ck, .slice A l.length c, .slice A' l'.length c'] w fun e w' => e = .returned (.bool true) ∧ Below w.heap.size w w' :=
  lgrows_core K A A' keys.length ck l.length (min l.length 60) c l'.length (min l'.length 60) c' keys (l.take 60) (l'.take 60) w rfl (by rw [List.length_take]; omega) (by rw [List.length_take]; omega) hK (hr.sgTake 60) (hr'.sgTake 60)
    (hok.sub (fun s hs => List.mem_of_mem_take hs)) (hok'.sub (fun s hs => List.mem_of_mem_take hs)) (by omega) (by omega) (cut9_list hr hc) (cut9_list hr' hc')
end Go.Proofs.Ythmecidpjlaonaa
namespace Go.Proofs.Ythmecidpjlaonaa.evidenceGrows
open Go.ChangeShapes Go.WideShapes Go.ChangeAt Go.RowKit

theorem own : ownKnob Try.prog.godebug = none := by kernel_rfl
theorem laidOut : laidOutB Try.prog = true := by kernel_rfl

set_option maxRecDepth 100000 in
set_option maxHeartbeats 1000000 in
theorem lifted (os : Os) (started : os.Started) (H : Type) (enc : TypeId × Value → H) :
    ReturnsInHanded {} Try.checked os 12 .any (Rows.evidenceGrowsSpec.pre6 enc Try.prog Try.f12 Rows.evidenceGrowsRow.domain false) (Rows.evidenceGrowsSpec.post enc Try.prog Try.f12 false true false false) := by
  refine returnsInHanded_of_change_sized (C := Try.checked) own started (by kernel_rfl) Try.func12
    (ChangeSpec.witness6 (enc := enc) (C := Try.checked) false ⟨#[], #[.slice none 0 0, .slice none 0 0, .slice none 0 0], []⟩ 8 (by kernel_rfl) (by kernel_rfl) (by kernel_rfl) (by kernel_rfl)) ?_
  intro W base args ds gs before hval0 hW hcnd hsz0 _
  have hval : ∀ (j : Nat) t v, Try.f12.params[j]? = some t → args[j]? = some v → Value.okWide Try.prog W .any base t v := hval0
  have hW' := hW
  obtain ⟨p, q, hA0, hV, rfl, hfz, hnd⟩ := hW
  have hA : DataW.TrodAll enc Try.prog W 0 (fun _ => true) true Try.f12.params.toList args.toList ds p := hA0
  have hsz : (DataW.weightsEach Try.prog (Try.f12.params.toList ++ Rows.evidenceGrowsSpec.plain.varTypes Try.prog) (ds ++ gs)).all (· ≤ reachBytes) = true := hsz0
  rw [Try.params12] at hA hval hsz
  obtain ⟨v0, vs0, d0, ds0, p0, q0, hargs, rfl, rfl, h0, r0⟩ := trodAll_cons hA
  obtain ⟨v1, vs1, d1, ds1, p1, q1, ha1, rfl, rfl, h1, r1⟩ := trodAll_cons r0
  subst ha1
  obtain ⟨v2, vs2, d2, ds2, p2, q2, ha2, rfl, rfl, h2, r2⟩ := trodAll_cons r1
  subst ha2
  obtain ⟨rfl, rfl, rfl⟩ := trodAll_nil r2
  obtain rfl : args = #[v0, v1, v2] := by cases args; simp_all
  obtain ⟨rfl, rfl⟩ := trodVars_none hV
  have hwt : ∀ k ∈ DataW.weightsEach Try.prog ([28, 29, 29] ++ Rows.evidenceGrowsSpec.plain.varTypes Try.prog) ([d0, d1, d2] ++ []), k ≤ reachBytes := fun k hk => by simpa using List.all_eq_true.1 hsz k hk
  have k0 := h0
  have lt0 : ∀ x ∈ p0, x.block < W.heap.size := by obtain ⟨m, hm⟩ := k0; exact DataW.trod_lt m _ _ _ hm
  obtain ⟨A0, l0, cap0, hv0, hr0, _, hl0, hm0, _⟩ : ∃ (A : Option Addr) (l : List Nm) (cap : Nat), v0.cells.toList = [.slice A l.length cap] ∧ Rd W W.heap.size A (l.flatMap nmc) ∧ (∀ a ∈ l, True) ∧ l.length ≤ cap ∧ cap ≤ maxLen ∧ l.length * Try.prog.bytesOf 39 ≤ reachBytes := by
    obtain ⟨fuel, hf⟩ := h0
    exact open_list nmc 8 (fun _ => True) Try.underlying28 cells39 (by omega) (fun n cs x h _ => by obtain ⟨nm, e⟩ := open_name h; exact ⟨nm, e, trivial⟩) (fun _ => rfl) hf (mem_weightsEach hwt (j := 0) (t := 28) rfl rfl)
  obtain ⟨a0, len0, c0, rfl⟩ := okWide_slice Try.underlying28 (hval 0 28 v0 rfl rfl)
  simp [Value.cells] at hv0
  obtain ⟨rfl, rfl, rfl⟩ := hv0
  have k1 := h1
  have lt1 : ∀ x ∈ p1, x.block < W.heap.size := by obtain ⟨m, hm⟩ := k1; exact DataW.trod_lt m _ _ _ hm
  obtain ⟨A1, l1, cap1, hv1, hr1, hok1, hl1, hm1, _⟩ : ∃ (A : Option Addr) (l : List Sg) (cap : Nat), v1.cells.toList = [.slice A l.length cap] ∧ Rd W W.heap.size A (l.flatMap sgc) ∧ (∀ a ∈ l, SgOk W W.heap.size a ∧ SgCap a) ∧ l.length ≤ cap ∧ cap ≤ maxLen ∧ l.length * Try.prog.bytesOf 43 ≤ reachBytes := by
    obtain ⟨fuel, hf⟩ := h1
    exact open_list sgc 23 (fun a => SgOk W W.heap.size a ∧ SgCap a) Try.underlying29 cells43 (by omega) (fun n cs x h hw => open_signed2 h hw) (fun e => by simp [sgc, Sg.size_cells]) hf (mem_weightsEach hwt (j := 1) (t := 29) rfl rfl)
  obtain ⟨a1, len1, c1, rfl⟩ := okWide_slice Try.underlying29 (hval 1 29 v1 rfl rfl)
  simp [Value.cells] at hv1
  obtain ⟨rfl, rfl, rfl⟩ := hv1
  have k2 := h2
  have lt2 : ∀ x ∈ p2, x.block < W.heap.size := by obtain ⟨m, hm⟩ := k2; exact DataW.trod_lt m _ _ _ hm
  obtain ⟨A2, l2, cap2, hv2, hr2, hok2, hl2, hm2, _⟩ : ∃ (A : Option Addr) (l : List Sg) (cap : Nat), v2.cells.toList = [.slice A l.length cap] ∧ Rd W W.heap.size A (l.flatMap sgc) ∧ (∀ a ∈ l, SgOk W W.heap.size a ∧ SgCap a) ∧ l.length ≤ cap ∧ cap ≤ maxLen ∧ l.length * Try.prog.bytesOf 43 ≤ reachBytes := by
    obtain ⟨fuel, hf⟩ := h2
    exact open_list sgc 23 (fun a => SgOk W W.heap.size a ∧ SgCap a) Try.underlying29 cells43 (by omega) (fun n cs x h hw => open_signed2 h hw) (fun e => by simp [sgc, Sg.size_cells]) hf (mem_weightsEach hwt (j := 2) (t := 29) rfl rfl)
  obtain ⟨a2, len2, c2, rfl⟩ := okWide_slice Try.underlying29 (hval 2 29 v2 rfl rfl)
  simp [Value.cells] at hv2
  obtain ⟨rfl, rfl, rfl⟩ := hv2
  clear hA0 hval0
  refine (lgrows_any a0 a1 a2 c0 c1 c2 l0 l1 l2 W hr0 hr1 hok1 hl1 hr2 hok2 hl2).mono fun e W' ⟨he, bel⟩ => ?_
  subst he
  exact ⟨_, rfl, _, _, _, [], _, [], hW', trodAll_mk1 (shut_bool Try.underlying4 _), (trodAll_cons_mk (Below.trod laidOut (by kernel_rfl) (of_decide_eq_true (by kernel_rfl)) k0 bel lt0) (trodAll_cons_mk (Below.trod laidOut (by kernel_rfl) (of_decide_eq_true (by kernel_rfl)) k1 bel lt1) (trodAll_cons_mk (Below.trod laidOut (by kernel_rfl) (of_decide_eq_true (by kernel_rfl)) k2 bel lt2) trodAll_mk0))), rfl, bel.frame _, fun h => by cases h⟩

theorem over : Rows.evidenceGrowsRow.holds Try.pinned (OpenSpec.ofChange Rows.evidenceGrowsSpec) :=
  OpenClaim.holds_of_wide 12 Try.f12 rfl rfl rfl rfl rfl rfl rfl ⟨rfl, rfl, rfl, rfl, rfl⟩ rfl rfl rfl rfl rfl (by kernel_rfl) Try.func12 closed
    (of_decide_eq_true (by kernel_rfl)) (by unfold Func.isWrapper; first | (rw [if_pos (by decide +kernel)]; kernel_rfl) | (rw [if_neg (by decide +kernel)]; exact ⟨rfl, rfl⟩))
    (fun os started H enc _ => lifted os started H enc)

theorem proved : Rows.EvidenceGrowsSaid := over
end Go.Proofs.Ythmecidpjlaonaa.evidenceGrows
