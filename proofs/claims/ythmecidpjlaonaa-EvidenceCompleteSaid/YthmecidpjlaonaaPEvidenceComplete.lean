/-
  The closed facts of the row of evidenceComplete, one by one. No condition.
  Plain mathematics of the law EvidenceComplete: what its loops gather. No condition.
  The law EvidenceGrows returns true and changes nothing that was there. Condition: its arguments lie in memory below the call.
  The law EvidenceComplete returns true and changes nothing that was there. Condition: its arguments lie in memory below the call.
  For all keys and lists of signed votes, a signer of two verified votes in conflict is guilty, and a signer whose verified votes have unlike keys is not: the law EvidenceComplete returns true. No condition.
-/
import Derived.Test.YthmecidpjlaonaaFactA
import Derived.Test.YthmecidpjlaonaaFactB
import Derived.Test.YthmecidpjlaonaaFactC
import Derived.Test.YthmecidpjlaonaaFactD
import Derived.Test.YthmecidpjlaonaaGPFind
import Derived.Test.YthmecidpjlaonaaGOpen2
import Derived.ShutString
import Derived.ChangeOld
namespace Go.Proofs.Ythmecidpjlaonaa.evidenceComplete
theorem j1 : (Rows.evidenceCompleteRow.wf (OpenSpec.ofChange Rows.evidenceCompleteSpec)) = true := by kernel_rfl
theorem j2 : (laidOutB Try.prog) = true := fact2
theorem j3 : (mapsRowed Try.prog) = true := fact3
theorem j4 : (Try.f13.params.all (Try.prog.readableRec ·)) = true := by kernel_rfl
theorem j5 : (namedTie Try.prog Rows.evidenceCompleteRow.named Rows.evidenceCompleteSpec.vars) = true := by kernel_rfl
theorem j6 : ((Rows.evidenceCompleteRow.stops == [])) = true := by kernel_rfl
theorem j7 : ((Try.prog.stops == [])) = true := by kernel_rfl
theorem j8 : ((Rows.evidenceCompleteRow.knobs == [])) = true := by kernel_rfl
theorem j9 : ((Try.prog.stopKnobs == [])) = true := by kernel_rfl
theorem j10 : ((Rows.evidenceCompleteRow.inPlace == Try.prog.inPlace 13)) = true := by kernel_rfl
theorem j11 : ((Rows.evidenceCompleteRow.unfollowed == Try.prog.unfollowed 13)) = true := by kernel_rfl
theorem j12 : ((Rows.evidenceCompleteRow.recurses == Try.prog.recurses 13)) = true := by kernel_rfl
theorem j13 : ((Rows.evidenceCompleteRow.named == Try.prog.varsNamed 13)) = true := by kernel_rfl
theorem j14 : ((Rows.evidenceCompleteRow.maps == (Try.f13.params.toList ++ Rows.evidenceCompleteSpec.plain.varTypes Try.prog).any (Try.prog.mapsRec ·))) = true := by kernel_rfl
theorem j15 : ((Rows.evidenceCompleteRow.ifaces == (Try.f13.params.toList ++ Rows.evidenceCompleteSpec.plain.varTypes Try.prog).any (Try.prog.ifacesRec ·))) = true := by kernel_rfl
theorem j16 : ((Rows.evidenceCompleteRow.mapsOut == Try.prog.mapsAmong Try.f13.resultTypes.toList)) = true := by kernel_rfl
theorem j17 : ((Rows.evidenceCompleteRow.loops == (Try.f13.params.toList ++ Rows.evidenceCompleteSpec.plain.varTypes Try.prog).any (Try.prog.loopsFrom ·))) = true := by kernel_rfl
theorem j18 : ((Rows.evidenceCompleteRow.wideKeys == (Try.f13.params.toList ++ Rows.evidenceCompleteSpec.plain.varTypes Try.prog ++ Try.f13.resultTypes.toList).any (Try.prog.wideKeysFrom ·))) = true := by kernel_rfl
theorem j19 : (Rows.evidenceCompleteSpec.vars.all (Try.prog.varReadable ·)) = true := by kernel_rfl
theorem j20 : (Try.f13.resultTypes.all (fun t => Try.prog.readableRec t && decide (t < Try.prog.types.size))) = true := by kernel_rfl
theorem j21 : ((Rows.evidenceCompleteRow.ifacesOut == Try.f13.resultTypes.toList.any (Try.prog.ifacesRec ·))) = true := by kernel_rfl
theorem j22 : ((Rows.evidenceCompleteRow.loopsOut == Try.f13.resultTypes.toList.any (Try.prog.loopsFrom ·))) = true := by kernel_rfl
theorem j23 : ((Rows.evidenceCompleteRow.plainKeys == Try.prog.plainKeys)) = true := by kernel_rfl
theorem j24 : (Rows.evidenceCompleteRow.shortTexts.isNone) = true := by kernel_rfl
theorem j25 : (Try.prog.stopsHeard) = true := fact25
theorem j26 : (Try.prog.mayEnter) = true := fact26
theorem j27 : ((Rows.evidenceCompleteRow.lifted == Try.prog.liftsFinal)) = true := fact27
theorem j28 : ((Try.prog.make == some Rows.evidenceCompleteRow.make)) = true := fact28
theorem j29 : ((Rows.evidenceCompleteRow.kinds == (if Rows.evidenceCompleteRow.domain.isEmpty then [] else Try.f13.params.toList.map fun t => match Try.prog.underlying t with | some (.int k) => some k | _ => none))) = true := by kernel_rfl
theorem j30 : ((Rows.evidenceCompleteRow.pinned == Rows.evidenceCompleteRow.pinnedBy)) = true := by kernel_rfl
theorem j31 : ((Rows.evidenceCompleteRow.veiled == (Try.f13.params.toList ++ Rows.evidenceCompleteSpec.plain.varTypes Try.prog ++ Try.f13.resultTypes.toList).any (Try.prog.veiledRec ·))) = true := by kernel_rfl
theorem j32 : (Rows.evidenceCompleteRow.veiledFits Try.prog Try.f13.params.toList (Try.f13.params.toList ++ Rows.evidenceCompleteSpec.plain.varTypes Try.prog ++ Try.f13.resultTypes.toList)) = true := by kernel_rfl
set_option maxRecDepth 100000 in
theorem closed : joinedFacts Try.prog 13 Try.f13 Rows.evidenceCompleteSpec Rows.evidenceCompleteRow = true := by
  unfold joinedFacts
  exact and_t (and_t (and_t (and_t (and_t (and_t (and_t (and_t (and_t (and_t (and_t (and_t (and_t (and_t (and_t (and_t (and_t (and_t (and_t (and_t (and_t (and_t (and_t (and_t (and_t (and_t (and_t (and_t (and_t (and_t (and_t (j1) j2) j3) j4) j5) j6) j7) j8) j9) j10) j11) j12) j13) j14) j15) j16) j17) j18) j19) j20) j21) j22) j23) j24) j25) j26) j27) j28) j29) j30) j31) j32
end Go.Proofs.Ythmecidpjlaonaa.evidenceComplete
namespace Go.Proofs.Ythmecidpjlaonaa

/-- Signer s has two verified votes in conflict, the later of them before place i. -/
def CompB (keys : List Nm) (l : List VS) (i s : Nat) : Prop :=
  ∃ a b x y, b < a ∧ a < i ∧ l[a]? = some x ∧ l[b]? = some y ∧ x.1.signer = (s : Int) ∧ ConfP x.1 y.1 ∧ verK keys x.1 x.2 = true ∧ verK keys y.1 y.2 = true
/-- .. or the later at place i, the earlier before k. -/
def CompI (keys : List Nm) (l : List VS) (i k s : Nat) : Prop :=
  CompB keys l i s ∨ ∃ b x y, b < k ∧ l[i]? = some x ∧ l[b]? = some y ∧ x.1.signer = (s : Int) ∧ ConfP x.1 y.1 ∧ verK keys x.1 x.2 = true ∧ verK keys y.1 y.2 = true
def MaskOf (m : Nat) (P : Nat → Prop) : Prop := m < 1024 ∧ ∀ s, m.testBit s = true ↔ P s
theorem MaskOf.congr {m : Nat} {P Q : Nat → Prop} (h : MaskOf m P) (hpq : ∀ s, P s ↔ Q s) : MaskOf m Q := ⟨h.1, fun s => (h.2 s).trans (hpq s)⟩
theorem MaskOf.or {m k : Nat} {P : Nat → Prop} (h : MaskOf m P) (hk : k ≤ 9) : MaskOf (m ||| 2 ^ k) (fun s => P s ∨ s = k) := by
  refine ⟨or_lt10 m k h.1 hk, fun s => ?_⟩
  rw [Nat.testBit_or, Bool.or_eq_true, h.2, Nat.testBit_two_pow]
  simp [eq_comm]
theorem MaskOf.unique {m m' : Nat} {P : Nat → Prop} (h : MaskOf m P) (h' : MaskOf m' P) : m = m' := by
  apply Nat.eq_of_testBit_eq
  intro i
  rw [Bool.eq_iff_iff, h.2, h'.2]
theorem gltF_mask (keys : List Nm) (l : List VS) : MaskOf (gltF keys l) (GuiltyP keys l) := ⟨gltF_lt keys l, gltF_bit keys l⟩
theorem compB_zero (keys : List Nm) (l : List VS) : MaskOf 0 (CompB keys l 0) := ⟨by omega, fun s => by
  simp only [Nat.zero_testBit, Bool.false_eq_true, false_iff]
  rintro ⟨a, b, x, y, _, h, _⟩
  omega⟩
theorem compI_zero {keys : List Nm} {l : List VS} {i : Nat} (s : Nat) : CompI keys l i 0 s ↔ CompB keys l i s :=
  ⟨fun h => by rcases h with h | ⟨b, _, _, h, _⟩; exact h; omega, .inl⟩
theorem compB_next {keys : List Nm} {l : List VS} {i : Nat} (s : Nat) : CompB keys l (i + 1) s ↔ CompI keys l i i s := by
  constructor
  · rintro ⟨a, b, x, y, h1, h2, h3, h4, r⟩
    rcases Nat.lt_or_ge a i with h | h
    · exact .inl ⟨a, b, x, y, h1, h, h3, h4, r⟩
    · have : a = i := by omega
      subst this
      exact .inr ⟨b, x, y, h1, h3, h4, r⟩
  · rintro (⟨a, b, x, y, h1, h2, r⟩ | ⟨b, x, y, h1, h3, r⟩)
    · exact ⟨a, b, x, y, h1, by omega, r⟩
    · exact ⟨i, b, x, y, h1, by omega, h3, r⟩
theorem compB_skip {keys : List Nm} {l : List VS} {i : Nat} {x : VS} (hx : l[i]? = some x) (hv : verK keys x.1 x.2 = false) (s : Nat) : CompB keys l (i + 1) s ↔ CompB keys l i s := by
  rw [compB_next]
  refine ⟨fun h => ?_, .inl⟩
  rcases h with h | ⟨b, x', y, _, h2, _, _, _, h3, _⟩
  · exact h
  · rw [hx] at h2; cases h2; rw [hv] at h3; cases h3
theorem compI_next {keys : List Nm} {l : List VS} {i k sn : Nat} {x y : VS} (hx : l[i]? = some x) (hy : l[k]? = some y) (hv : verK keys x.1 x.2 = true) (hs : x.1.signer = (sn : Int)) (s : Nat) :
    CompI keys l i (k + 1) s ↔ CompI keys l i k s ∨ (s = sn ∧ ConfP x.1 y.1 ∧ verK keys y.1 y.2 = true) := by
  constructor
  · rintro (h | ⟨b, x', y', h1, h2, h3, h4, h5, h6, h7⟩)
    · exact .inl (.inl h)
    · rw [hx] at h2; cases h2
      rcases Nat.lt_or_ge b k with h | h
      · exact .inl (.inr ⟨b, x, y', h, hx, h3, h4, h5, h6, h7⟩)
      · have : b = k := by omega
        subst this
        rw [hy] at h3; cases h3
        exact .inr ⟨by omega, h5, h7⟩
  · rintro ((h | ⟨b, x', y', h1, r⟩) | ⟨h1, h2, h3⟩)
    · exact .inl h
    · exact .inr ⟨b, x', y', by omega, r⟩
    · exact .inr ⟨k, x, y, by omega, hx, hy, by rw [h1]; exact hs, h2, hv, h3⟩
theorem compB_all {keys : List Nm} {l : List VS} (s : Nat) : CompB keys l l.length s ↔ GuiltyP keys l s := by
  constructor
  · rintro ⟨a, b, x, y, _, _, h1, h2, r1, r2, r3, r4⟩
    exact ⟨x, List.mem_of_getElem? h1, y, List.mem_of_getElem? h2, r1, r2, r3, r4⟩
  · rintro ⟨x, hx, y, hy, r1, r2, r3, r4⟩
    obtain ⟨a, ha⟩ := List.mem_iff_getElem?.1 hx
    obtain ⟨b, hb⟩ := List.mem_iff_getElem?.1 hy
    have la := (List.getElem?_eq_some_iff.1 ha).1
    have lb := (List.getElem?_eq_some_iff.1 hb).1
    rcases Nat.lt_trichotomy a b with h | h | h
    · exact ⟨b, a, y, x, h, lb, hb, ha, by rw [← r2.2.1.2.2.2.2]; exact r1, r2.symm, r4, r3⟩
    · subst h
      rw [ha] at hb; cases hb
      exact absurd rfl r2.1
    · exact ⟨a, b, x, y, h, la, ha, hb, r1, r2, r3, r4⟩
theorem verK_at {keys : List Nm} {v : Vt} {g : List UInt8} {sn : Nat} (hs : v.signer = (sn : Int)) (hl : sn < keys.length) : verK keys v g = verS (keys.getD sn Nm.zero) v g := by
  unfold verK
  rw [hs, decide_eq_true (by omega), decide_eq_true (by omega), Bool.true_and, Bool.true_and, Int.toNat_natCast]
end Go.Proofs.Ythmecidpjlaonaa
namespace Go.Proofs.Ythmecidpjlaonaa
open Go.RowKit
attribute [local go_sem ↓] Go.wp_at_zero Go.wp_at_succ loadNm loadVt loadSg loadEv
attribute [local go_sem] runNm runVt runSg runEv pickRow_some rowAt_drew rowAt_drewN

theorem andNot_sub (a g : Nat) (h : ∀ i, a.testBit i = true → g.testBit i = true) : bits .andNot .i64 (a : Int) (g : Int) = 0 := by
  have e : (BitVec.ofInt 64 (a : Int) &&& ~~~(BitVec.ofInt 64 (g : Int))) = 0#64 := by
    rw [BitVec.ofInt_natCast, BitVec.ofInt_natCast]
    apply BitVec.eq_of_getLsbD_eq
    intro i hi
    rw [BitVec.getLsbD_and, BitVec.getLsbD_not, BitVec.getLsbD_ofNat, BitVec.getLsbD_ofNat, BitVec.getLsbD_zero]
    cases ha : a.testBit i with
    | false => simp
    | true => rw [h i ha]; simp [hi]
  show IntKind.i64.wrap ((BitVec.ofInt 64 (a : Int) &&& ~~~(BitVec.ofInt 64 (g : Int))).toNat : Int) = 0
  rw [e]; rfl
set_option maxRecDepth 100000 in
theorem cut9_any (A : Option Addr) (n c : Nat) (w : World) (hA : 60 < n → A ≠ none) (hc : n ≤ c) : Calls Try.prog 49 #[.slice A n c] w fun e w' => e = .returned (.slice A (min n 60) c) ∧ w' = w := by
  by_cases h : 60 < n
  · have d : decide ((60 : Int) < (n : Int)) = true := by simp; omega
    have e : min n 60 = 60 := by omega
    have k : (60 : Int) ≤ (c : Int) := by omega
    rw [e]
    clear e
    rcases A with _ | ⟨b, o, p⟩
    · exact absurd rfl (hA h)
    · go_enter Try.func49, Try.ntmps49
      go_wp2
      go_ret
      exact ⟨rfl, rfl⟩
  · have d : decide ((60 : Int) < (n : Int)) = false := by simp; omega
    have e : min n 60 = n := by omega
    rw [e]
    clear e
    go_enter Try.func49, Try.ntmps49
    go_wp2
    go_ret
    exact ⟨rfl, rfl⟩
theorem glt_sub {keys : List Nm} {l l' : List VS} (h : ∀ x ∈ l, x ∈ l') : bits .andNot .i64 ((gltF keys l : Nat) : Int) ((gltF keys l' : Nat) : Int) = 0 :=
  andNot_sub _ _ fun i hi => (gltF_bit keys l' i).2 (((gltF_bit keys l i).1 hi).mono h)
/-- A list that was put together in memory of the call's own. -/
theorem own_sgs {w W : World} {b n : Nat} {v : Value} {L : List Sg} (h : W.ownsRow b 43 23 v n (L.flatMap sgc)) (hn : n = L.length) (hb : Below w.heap.size w W) (hs : SgsOk w w.heap.size L) : SlOk W L v :=
  own_slice h hn ((hs.below hb).more hb.size)
theorem FoundPost.nice {w : World} {c : List ES} {e : Ending} {w' : World} (h : FoundPost w c e w') : ∃ (E : List Ev) (A : Option Addr) (k : Nat), e = .returned (.slice A E.length k) ∧ Below w.heap.size w w' ∧ Rd w' w'.heap.size A (E.flatMap evc) ∧ EvsCap w' E ∧ E.map Ev.vs = c := by
  obtain ⟨E, v, rfl, hb, hown, hk, he⟩ := h
  obtain ⟨A, k, rfl, hr, _, _⟩ := own_evs hown rfl
  exact ⟨E, A, k, rfl, hb, hr, hk, he⟩

set_option maxRecDepth 100000 in
set_option maxHeartbeats 8000000 in
theorem lgrows_core (K A A' : Option Addr) (nk ck n n' c m m' c' : Nat) (keys : List Nm) (l l' : List Sg) (w : World) (hnk : keys.length = nk) (hn : l.length = n') (hm : l'.length = m') (hK : Rd w w.heap.size K (keys.flatMap nmc)) (hr : Rd w w.heap.size A (l.flatMap sgc)) (hr' : Rd w w.heap.size A' (l'.flatMap sgc))
    (hok : SgsOk w w.heap.size l) (hok' : SgsOk w w.heap.size l') (hsmall : n' ≤ 60) (hsmall' : m' ≤ 60) (hcut : ∀ W, Calls Try.prog 49 #[.slice A n c] W fun e w' => e = .returned (.slice A n' c) ∧ w' = W) (hcut' : ∀ W, Calls Try.prog 49 #[.slice A' m c'] W fun e w' => e = .returned (.slice A' m' c') ∧ w' = W) :
    Calls Try.prog 12 #[.slice K nk ck, .slice A n c, .slice A' m c'] w fun e w' => e = .returned (.bool true) ∧ Below w.heap.size w w' := by
  have HCut := Lib.hid hcut
  have HCut' := Lib.hid hcut'
  have HN := Lib.hid hn
  have HM := Lib.hid hm
  have HR := Lib.hid hr
  have HR' := Lib.hid hr'
  have HOk := Lib.hid hok
  have HOk' := Lib.hid hok'
  have HAw := Lib.hid awake9_any
  have HG : Hid (∀ (B : Option Addr) (k kc : Nat) (L : List Sg) (V : World), Below w.heap.size w V → L.length = k → Rd V V.heap.size B (L.flatMap sgc) → SgsOk V V.heap.size L → k ≤ 1000000 → Calls Try.prog 50 #[.slice K nk ck, .slice B k kc] V (IntPost V ((gltF keys (L.map Sg.vs) : Nat) : Int))) :=
    fun B k kc L V hV h1 h2 h3 h4 => glt_any K B nk ck k kc keys L V hnk h1 ((hK.below hV).more hV.size) h2 h3 h4
  have HF : Hid (∀ (B : Option Addr) (k kc : Nat) (L : List Sg) (V : World), Below w.heap.size w V → L.length = k → Rd V V.heap.size B (L.flatMap sgc) → SgsOk V V.heap.size L → k ≤ 1000000 → Calls Try.prog 52 #[.slice K nk ck, .slice B k kc] V (FoundPost V (findS (cvS keys (L.map Sg.vs)) 10))) :=
    fun B k kc L V hV h1 h2 h3 h4 => pfind_any K B nk ck k kc keys L V hnk h1 ((hK.below hV).more hV.size) h2 h3 h4
  clear hcut hcut' hnk hn hm hK hr hr' hok hok'
  have hb0 : Below w.heap.size w w := Below.refl _ _
  go_enter Try.func12, Try.ntmps12
  go_upto_region 2 with (first
    | (go_at_call 49; refine (HCut.out _).mono ?_; rintro en w2 ⟨rfl, hw2⟩; replace hw2 := hw2.symm; subst hw2; clear HCut)
    | (go_at_call 49; refine (HCut'.out _).mono ?_; rintro en w2 ⟨rfl, hw2⟩; replace hw2 := hw2.symm; subst hw2))
  try go_frame
  have hmade : Hid ((w.alloc (.cells #[] 43)).ownsRow w.heap.size 43 23 (.slice (some ⟨w.heap.size, 0, none⟩) 0 0) 0 []) := World.ownsRow_made w #[] 0 (Nat.le_refl _) (by unfold maxLen; omega) rfl
  go_upto_region 3 with (first
    | (at_builtin; refine wpList_app rfl (.tmp 14) (.tmp 15) _ rfl w.heap.size 43 (.agg zeroSc) 23 88 Try.underlying29 info_signed rfl (by decide) (.slice (some ⟨w.heap.size, 0, none⟩) 0 0) 0 [] rfl hmade.out w.heap.size A n' c (l.flatMap sgc) rfl (by rw [flat_length sgc 23 l (sgc_len l), HN.out]) (HR.out.alloc (Nat.le_refl _) _) (fun u hu => by obtain ⟨s, _, hs⟩ := List.mem_flatMap.1 hu; exact s.one u hs) (by omega) (by unfold maxLen; omega) (by simp) ?_; intro v2 w2 hown2 hg2 hat2; rw [Nat.zero_add, List.nil_append] at hown2; have hbw2 : Below w.heap.size w w2 := below_own (hb0.alloc (Nat.le_refl _) _) hmade.out hg2; have HOwn2 := Lib.hid hown2; clear hown2 hg2 hat2)
    | (at_builtin; refine wpList_app rfl (.tmp 16) (.tmp 17) _ rfl w.heap.size 43 (.agg zeroSc) 23 88 Try.underlying29 info_signed rfl (by decide) v2 n' (l.flatMap sgc) rfl HOwn2.out w.heap.size A' m' c' (l'.flatMap sgc) rfl (by rw [flat_length sgc 23 l' (sgc_len l'), HM.out]) (HR'.out.below hbw2) (fun u hu => by obtain ⟨s, _, hs⟩ := List.mem_flatMap.1 hu; exact s.one u hs) (by omega) (by unfold maxLen; omega) hbw2.size ?_; intro v3 w3 hown3 hg3 hat3; rw [← List.flatMap_append] at hown3; have hbw3 : Below w.heap.size w w3 := below_own hbw2 HOwn2.out hg3; have HOwn3 := Lib.hid hown3; clear hown3 hg3 hat3))
  obtain ⟨B3, c3, hv3⟩ := own_form HOwn3.out
  subst hv3
  clear HOwn2 hbw2
  try go_frame
  have hmade3 : Hid ((w3.alloc (.cells #[] 43)).ownsRow w3.heap.size 43 23 (.slice (some ⟨w3.heap.size, 0, none⟩) 0 0) 0 []) := World.ownsRow_made w3 #[] 0 (Nat.le_refl _) (by unfold maxLen; omega) rfl
  have hb3 : Below w3.heap.size w3 w3 := Below.refl _ _
  go_upto_region 4 with (first
    | (at_builtin; refine wpList_app rfl (.tmp 19) (.tmp 20) _ rfl w3.heap.size 43 (.agg zeroSc) 23 88 Try.underlying29 info_signed rfl (by decide) (.slice (some ⟨w3.heap.size, 0, none⟩) 0 0) 0 [] rfl hmade3.out w3.heap.size A' m' c' (l'.flatMap sgc) rfl (by rw [flat_length sgc 23 l' (sgc_len l'), HM.out]) (((HR'.out.below hbw3).more hbw3.size).alloc (Nat.le_refl _) _) (fun u hu => by obtain ⟨s, _, hs⟩ := List.mem_flatMap.1 hu; exact s.one u hs) (by omega) (by unfold maxLen; omega) (by simp) ?_; intro v4 w4 hown4 hg4 hat4; rw [Nat.zero_add, List.nil_append] at hown4; have hbw4 : Below w3.heap.size w3 w4 := below_own (hb3.alloc (Nat.le_refl _) _) hmade3.out hg4; have HOwn4 := Lib.hid hown4; clear hown4 hg4 hat4)
    | (at_builtin; refine wpList_app rfl (.tmp 21) (.tmp 22) _ rfl w3.heap.size 43 (.agg zeroSc) 23 88 Try.underlying29 info_signed rfl (by decide) v4 m' (l'.flatMap sgc) rfl HOwn4.out w3.heap.size A n' c (l.flatMap sgc) rfl (by rw [flat_length sgc 23 l (sgc_len l), HN.out]) (((HR.out.below hbw3).more hbw3.size).below hbw4) (fun u hu => by obtain ⟨s, _, hs⟩ := List.mem_flatMap.1 hu; exact s.one u hs) (by omega) (by unfold maxLen; omega) hbw4.size ?_; intro v5 w5 hown5 hg5 hat5; rw [← List.flatMap_append] at hown5; have hbw5 : Below w3.heap.size w3 w5 := below_own hbw4 HOwn4.out hg5; have HOwn5 := Lib.hid hown5; clear hown5 hg5 hat5))
  obtain ⟨B5, c5, hv5⟩ := own_form HOwn5.out
  subst hv5
  have HA5 : Hid (w5.ownsRow w.heap.size 43 23 (.slice B3 (n' + m') c3) (n' + m') ((l ++ l').flatMap sgc)) := own_below HOwn3.out hbw5 (Nat.le_refl _)
  have hw5 : Below w.heap.size w w5 := hbw3.trans (hbw5.mono hbw3.size)
  have hokA : SgsOk w w.heap.size (l ++ l') := fun s hs => by rcases List.mem_append.1 hs with hs | hs; exact HOk.out s hs; exact HOk'.out s hs
  have hokT : SgsOk w w.heap.size (l' ++ l) := fun s hs => by rcases List.mem_append.1 hs with hs | hs; exact HOk'.out s hs; exact HOk.out s hs
  have HRA := Lib.hid (Rd.of_own HA5.out)
  have HRT := Lib.hid (Rd.of_own HOwn5.out)
  have hmem : ∀ x, x ∈ (l' ++ l).map Sg.vs ↔ x ∈ (l ++ l').map Sg.vs := fun x => by rw [List.map_append, List.map_append, List.mem_append, List.mem_append]; exact Or.comm
  obtain ⟨g, hg⟩ : ∃ g, g = gltF keys ((l ++ l').map Sg.vs) := ⟨_, rfl⟩
  obtain ⟨ga, hga⟩ : ∃ g, g = gltF keys (l.map Sg.vs) := ⟨_, rfl⟩
  obtain ⟨gb, hgb⟩ : ∃ g, g = gltF keys (l'.map Sg.vs) := ⟨_, rfl⟩
  have an1 : bits .andNot .i64 (ga : Int) (g : Int) = 0 := by rw [hga, hg]; exact glt_sub fun x hx => by rw [List.map_append]; exact List.mem_append_left _ hx
  have an2 : bits .andNot .i64 (gb : Int) (g : Int) = 0 := by rw [hgb, hg]; exact glt_sub fun x hx => by rw [List.map_append]; exact List.mem_append_right _ hx
  have HG1 : Hid (∀ V, Below w5.heap.size w5 V → Calls Try.prog 50 #[.slice K nk ck, .slice B3 (n' + m') c3] V (IntPost V (g : Int))) := fun V hV => by
    rw [hg]; exact HG.out B3 _ c3 (l ++ l') V (hw5.trans (hV.mono hw5.size)) (by rw [List.length_append, HN.out, HM.out]) ((HRA.out.below hV).more hV.size) (by have hb := hw5.trans (hV.mono hw5.size); exact (hokA.below hb).more hb.size) (by omega)
  have HG2 : Hid (∀ V, Below w5.heap.size w5 V → Calls Try.prog 50 #[.slice K nk ck, .slice B5 (m' + n') c5] V (IntPost V (g : Int))) := fun V hV => by
    rw [hg, ← gltF_congr hmem]; exact HG.out B5 _ c5 (l' ++ l) V (hw5.trans (hV.mono hw5.size)) (by rw [List.length_append, HN.out, HM.out]) ((HRT.out.below hV).more hV.size) (by have hb := hw5.trans (hV.mono hw5.size); exact (hokT.below hb).more hb.size) (by omega)
  have HG3 : Hid (∀ V, Below w5.heap.size w5 V → Calls Try.prog 50 #[.slice K nk ck, .slice A n' c] V (IntPost V (ga : Int))) := fun V hV => by
    have hb := hw5.trans (hV.mono hw5.size)
    rw [hga]; exact HG.out A _ c l V hb HN.out ((HR.out.below hb).more hb.size) ((HOk.out.below hb).more hb.size) (by omega)
  have HG4 : Hid (∀ V, Below w5.heap.size w5 V → Calls Try.prog 50 #[.slice K nk ck, .slice A' m' c'] V (IntPost V (gb : Int))) := fun V hV => by
    have hb := hw5.trans (hV.mono hw5.size)
    rw [hgb]; exact HG.out A' _ c' l' V hb HM.out ((HR'.out.below hb).more hb.size) ((HOk'.out.below hb).more hb.size) (by omega)
  have HF1 : Hid (∀ V, Below w5.heap.size w5 V → Calls Try.prog 52 #[.slice K nk ck, .slice B3 (n' + m') c3] V (FoundPost V (findS (cvS keys ((l ++ l').map Sg.vs)) 10))) := fun V hV =>
    HF.out B3 _ c3 (l ++ l') V (hw5.trans (hV.mono hw5.size)) (by rw [List.length_append, HN.out, HM.out]) ((HRA.out.below hV).more hV.size) (by have hb := hw5.trans (hV.mono hw5.size); exact (hokA.below hb).more hb.size) (by omega)
  have HF2 : Hid (∀ V, Below w5.heap.size w5 V → Calls Try.prog 52 #[.slice K nk ck, .slice B5 (m' + n') c5] V (FoundPost V (findS (cvS keys ((l ++ l').map Sg.vs)) 10))) := fun V hV => by
    rw [← cvS_congr hmem]; exact HF.out B5 _ c5 (l' ++ l) V (hw5.trans (hV.mono hw5.size)) (by rw [List.length_append, HN.out, HM.out]) ((HRT.out.below hV).more hV.size) (by have hb := hw5.trans (hV.mono hw5.size); exact (hokT.below hb).more hb.size) (by omega)
  have hb5 : Below w5.heap.size w5 w5 := Below.refl _ _
  clear HA5 HOwn3 HOwn5 hokA hokT HRA HRT hmem hg hga hgb HG HF hbw3 hbw4 hbw5 HOwn4 hmade hmade3 hb3 hb0
  try go_frame
  go_upto_region 5 with (go_at_call 50; refine (HG1.out _ hb5).mono ?_; rintro en w6 ⟨rfl, hb6⟩)
  have hbx6 := hb6
  clear hb6
  try go_frame
  go_wp2_with (first
    | (go_at_call 50; refine (HG3.out _ hbx6).mono ?_; rintro en w7 ⟨rfl, hb7⟩; have hbx7 := hbx6.trans (hb7.mono hbx6.size); clear HG3)
    | (go_at_call 50; refine (HG4.out _ hbx7).mono ?_; rintro en w8 ⟨rfl, hb8⟩; have hbx8 := hbx7.trans (hb8.mono hbx7.size); clear HG4)
    | (go_at_call 50; refine (HG2.out _ hbx8).mono ?_; rintro en w9 ⟨rfl, hb9⟩; have hbx9 := hbx8.trans (hb9.mono hbx8.size); clear HG2)
    | (go_at_call 52; refine (HF2.out _ hbx9).mono ?_; rintro en w10 h10; obtain ⟨E, A10, k10, rfl, hb10, hr10, hk10, he10⟩ := h10.nice; have hbx10 := hbx9.trans (hb10.mono hbx9.size); clear h10 HF2)
    | (go_at_call 52; refine (HF1.out _ hbx10).mono ?_; rintro en w11 h11; obtain ⟨F, A11, k11, rfl, hb11, hr11, hk11, he11⟩ := h11.nice; have hbx11 := hbx10.trans (hb11.mono hbx10.size); have hlen : E.length = F.length := (by have := congrArg List.length (he10.trans he11.symm); simpa using this); have hP : Hid (Calls Try.prog 51 #[.slice A10 E.length k10, .slice A11 F.length k11] w11 (BoolPost w11 true)) := (by rw [hlen]; exact pairs9_eq A10 A11 k10 k11 F.length E F w11 hlen rfl ((hr10.below hb11).more hb11.size) hr11 (hk10.below hb11) hk11 (he10.trans he11.symm) (by have := found_len he11; omega)); clear h11 hlen he10 he11 hk10 hk11 hr10 hr11)
    | (go_at_call 51; refine hP.out.mono ?_; rintro en w12 ⟨rfl, hb12⟩; have hbx12 := hbx11.trans (hb12.mono hbx11.size))
    | (go_at_call 53; refine (HAw.out _).mono ?_; rintro en w13 ⟨rfl, hb13⟩))
  go_ret
  have hbw12 := hw5.trans (hbx12.mono hw5.size)
  exact ⟨rfl, hbw12.trans (hb13.mono hbw12.size)⟩

theorem some_sg {w : World} {B' : Nat} {A : Option Addr} {l : List Sg} (h : Rd w B' A (l.flatMap sgc)) (hl : 0 < l.length) : A ≠ none := by
  obtain ⟨b, o, rfl, _⟩ := h.cells (by intro e; have := flat_length sgc 23 l (sgc_len l); rw [e] at this; simp at this; omega)
  simp
theorem cut9_list {w : World} {A : Option Addr} {l : List Sg} {c : Nat} (hr : Rd w w.heap.size A (l.flatMap sgc)) (hc : l.length ≤ c) (W : World) : Calls Try.prog 49 #[.slice A l.length c] W fun e w' => e = .returned (.slice A (min l.length 60) c) ∧ w' = W :=
  cut9_any A l.length c W (fun h => some_sg hr (by omega)) hc
theorem lgrows_any (K A A' : Option Addr) (ck c c' : Nat) (keys : List Nm) (l l' : List Sg) (w : World) (hK : Rd w w.heap.size K (keys.flatMap nmc)) (hr : Rd w w.heap.size A (l.flatMap sgc)) (hok : SgsOk w w.heap.size l) (hc : l.length ≤ c)
    (hr' : Rd w w.heap.size A' (l'.flatMap sgc)) (hok' : SgsOk w w.heap.size l') (hc' : l'.length ≤ c') :
    Calls Try.prog 12 #[.slice K keys.length ck, .slice A l.length c, .slice A' l'.length c'] w fun e w' => e = .returned (.bool true) ∧ Below w.heap.size w w' :=
  lgrows_core K A A' keys.length ck l.length (min l.length 60) c l'.length (min l'.length 60) c' keys (l.take 60) (l'.take 60) w rfl (by rw [List.length_take]; omega) (by rw [List.length_take]; omega) hK (hr.sgTake 60) (hr'.sgTake 60)
    (hok.sub (fun s hs => List.mem_of_mem_take hs)) (hok'.sub (fun s hs => List.mem_of_mem_take hs)) (by omega) (by omega) (cut9_list hr hc) (cut9_list hr' hc')
end Go.Proofs.Ythmecidpjlaonaa
namespace Go.Proofs.Ythmecidpjlaonaa
open Go.RowKit
attribute [local go_sem ↓] Go.wp_at_zero Go.wp_at_succ loadNm loadVt loadSg loadEv
attribute [local go_sem] runNm runVt runSg runEv pickRow_some rowAt_drew rowAt_drewN

def CRel (keys : List Nm) (l : List Sg) (w : World) (mv iv : Value) (wr : World) : Prop :=
  ∃ i m : Nat, iv = .int .i64 (i : Int) ∧ mv = .int .i64 (m : Int) ∧ i ≤ l.length ∧ MaskOf m (CompB keys (l.map Sg.vs) i) ∧ Below w.heap.size w wr
def CRel2 (keys : List Nm) (l : List Sg) (i : Nat) (w : World) (mv kv : Value) (wr : World) : Prop :=
  ∃ k m : Nat, kv = .int .i64 (k : Int) ∧ mv = .int .i64 (m : Int) ∧ k ≤ i ∧ MaskOf m (CompI keys (l.map Sg.vs) i k) ∧ Below w.heap.size w wr
theorem Rd.sgCell {w : World} {B' b o : Nat} {l : List Sg} {k : Nat} {s : Sg} (h : Rd w B' (some ⟨b, o, none⟩) (l.flatMap sgc)) (hk : l[k]? = some s) (j : Nat) (u : Value) (hu : s.vote.cells[j]? = some u) : w.cell? ⟨b, o + k * 23 + j, none⟩ = some u :=
  (rowAt_back (h.sgRow hk)).2 j u (by simpa using s.cell_vote j u hu)
theorem get_vs {l : List Sg} {k : Nat} {s : Sg} (h : l[k]? = some s) : (l.map Sg.vs)[k]? = some s.vs := by rw [List.getElem?_map, h]; rfl

set_option maxRecDepth 100000 in
set_option maxHeartbeats 8000000 in
theorem lcompl_core (K A : Option Addr) (nk ck n n' c : Nat) (keys : List Nm) (l : List Sg) (w : World) (hnk : keys.length = nk) (hn : l.length = n') (hK : Rd w w.heap.size K (keys.flatMap nmc)) (hr : Rd w w.heap.size A (l.flatMap sgc))
    (hok : SgsOk w w.heap.size l) (hsmall : n' ≤ 60) (hcut : ∀ W, Calls Try.prog 49 #[.slice A n c] W fun e w' => e = .returned (.slice A n' c) ∧ w' = W) :
    Calls Try.prog 13 #[.slice K nk ck, .slice A n c] w fun e w' => e = .returned (.bool true) ∧ Below w.heap.size w w' := by
  have HCut := Lib.hid hcut
  have HN := Lib.hid hn
  have HNK := Lib.hid hnk
  have HK := Lib.hid hK
  have HR := Lib.hid hr
  have HOk := Lib.hid hok
  have HAw := Lib.hid awake9_any
  have HG : Hid (∀ V, Below w.heap.size w V → Calls Try.prog 50 #[.slice K nk ck, .slice A n' c] V (IntPost V ((gltF keys (l.map Sg.vs) : Nat) : Int))) := fun V hV =>
    glt_any K A nk ck n' c keys l V hnk hn ((hK.below hV).more hV.size) ((hr.below hV).more hV.size) ((hok.below hV).more hV.size) (by omega)
  clear hcut hnk hn hK hr hok
  go_enter Try.func13, Try.ntmps13
  go_upto_region 2 with (go_at_call 49; refine (HCut.out _).mono ?_; rintro en w2 ⟨rfl, hw2⟩; replace hw2 := hw2.symm; subst hw2; clear HCut)
  try go_frame
  go_wp2
  go_loopw [5, 6] (fun mv iv wr => CRel keys l w mv iv wr) (fun _ iv _ => n' - (intOf iv).toNat)
  case atStart => exact ⟨0, 0, rfl, rfl, Nat.zero_le _, compB_zero _ _, Below.refl _ _⟩
  case round =>
    obtain ⟨i, m, rfl, rfl, hin, hM, hbw⟩ := hrel
    rw [HN.out] at hin
    have HM := Lib.hid hM
    clear hM
    by_cases hi : i < n'
    · have di : decide ((i : Int) < (n' : Int)) = true := by simp; omega
      have i0 : (0 : Int) ≤ (i : Int) := by omega
      have i1 : (i : Int) < (n' : Int) := by omega
      obtain ⟨s, hs⟩ : ∃ s, l[i]? = some s := ⟨_, List.getElem?_eq_getElem (by rw [HN.out]; exact hi)⟩
      obtain ⟨b, o, rfl, _, _⟩ := HR.out.cells (by intro e; have := flat_length sgc 23 l (sgc_len l); rw [e, HN.out] at this; simp at this; omega)
      obtain ⟨z, hz⟩ : ∃ z, z = s.vote.signer := ⟨_, rfl⟩
      have c4 : wr.cell? ⟨b, o + i * 23 + 4, none⟩ = some (.int .i64 z) := by rw [hz]; exact (HR.out.below hbw).sgCell hs 4 _ rfl
      have HZ := Lib.hid hz
      have HS := Lib.hid hs
      clear hz hs
      go_upto_region 7 with fail
      clear c4
      try go_frame
      by_cases hz0 : z < 0
      · have d1 : decide (z < 0) = true := by simp; omega
        have hv : verK keys s.vote s.sig = false := by
          have hz1 : ¬ (0 ≤ s.vote.signer) := by have := HZ.out; omega
          unfold verK; rw [decide_eq_false hz1, Bool.false_and]
        refine wp_region_noPanic ?_
        refine wp_region_held_drew (S := fun _ => True) (by kernel_rfl) (trivial) (fun hHeld => ?_)
        refine wpAnyH_takeD (some 23) (i := 0) (v := ?vh1_0) rfl rfl (by kernel_rfl) (by kernel_rfl) (by kernel_rfl) (fun _ _ _ h => h) (by rfl) ?hh1_0 (by assumption) ?_
        case hh1_0 => (intro wq hSw; (try dsimp only at hSw); go_simp; (try (with_reducible rfl)))
        go_frame
        refine wpAnyH_takeD (some 24) (i := 1) (v := ?vh1_1) rfl rfl (by kernel_rfl) (by kernel_rfl) (by kernel_rfl) (fun _ _ _ h => h) (by rfl) ?hh1_1 (by assumption) ?_
        case hh1_1 => (intro wq hSw; (try dsimp only at hSw); go_simp; (try (with_reducible rfl)))
        go_frame
        refine wpAnyH_takeD (some 25) (i := 2) (v := ?vh1_2) rfl rfl (by kernel_rfl) (by kernel_rfl) (by kernel_rfl) (fun _ _ _ h => h) (by rfl) ?hh1_2 (by assumption) ?_
        case hh1_2 => (intro wq hSw; (try dsimp only at hSw); go_simp; (try (with_reducible rfl)))
        go_frame
        refine wpAnyH_skipD (some 26) (i := 3) rfl rfl (by kernel_rfl) (by kernel_rfl) (by kernel_rfl) (fun _ _ _ h => h) (by rfl) (by assumption) ?_
        go_frame
        refine wpAnyH_skipD (some 27) (i := 4) rfl rfl (by kernel_rfl) (by kernel_rfl) (by kernel_rfl) (fun _ _ _ h => h) (by rfl) (by assumption) ?_
        go_frame
        refine wpAnyH_skipD (some 28) (i := 5) rfl rfl (by kernel_rfl) (by kernel_rfl) (by kernel_rfl) (fun _ _ _ h => h) (by rfl) (by assumption) ?_
        go_frame
        refine wpAnyH_skipD (some 29) (i := 6) rfl rfl (by kernel_rfl) (by kernel_rfl) (by kernel_rfl) (fun _ _ _ h => h) (by rfl) (by assumption) ?_
        go_frame
        refine wpAnyH_takeD (some 30) (i := 7) (v := ?vh1_7) rfl rfl (by kernel_rfl) (by kernel_rfl) (by kernel_rfl) (fun _ _ _ h => h) (by rfl) ?hh1_7 (by assumption) ?_
        case hh1_7 => (intro wq hSw; (try dsimp only at hSw); go_simp; (try (with_reducible rfl)))
        go_frame
        refine wpAnyH_takeD (some 31) (i := 8) (v := ?vh1_8) rfl rfl (by kernel_rfl) (by kernel_rfl) (by kernel_rfl) (fun _ _ _ h => h) (by rfl) ?hh1_8 (by assumption) ?_
        case hh1_8 => (intro wq hSw; (try dsimp only at hSw); go_simp; (try (with_reducible rfl)))
        go_frame
        refine wpAnyH_skipD (some 32) (i := 9) rfl rfl (by kernel_rfl) (by kernel_rfl) (by kernel_rfl) (fun _ _ _ h => h) (by rfl) (by assumption) ?_
        go_frame
        refine wpAnyH_skipD (some 33) (i := 10) rfl rfl (by kernel_rfl) (by kernel_rfl) (by kernel_rfl) (fun _ _ _ h => h) (by rfl) (by assumption) ?_
        go_frame
        refine wpAnyH_takeD (some 34) (i := 11) (v := ?vh1_11) rfl rfl (by kernel_rfl) (by kernel_rfl) (by kernel_rfl) (fun _ _ _ h => h) (by rfl) ?hh1_11 (by assumption) ?_
        case hh1_11 => (intro wq hSw; (try dsimp only at hSw); go_simp; (try (with_reducible rfl)))
        go_frame
        refine wpAnyH_takeD (some 35) (i := 12) (v := ?vh1_12) rfl rfl (by kernel_rfl) (by kernel_rfl) (by kernel_rfl) (fun _ _ _ h => h) (by rfl) ?hh1_12 (by assumption) ?_
        case hh1_12 => (intro wq hSw; (try dsimp only at hSw); go_simp; (try (with_reducible rfl)))
        go_frame
        refine wpAnyH_skipD (some 36) (i := 13) rfl rfl (by kernel_rfl) (by kernel_rfl) (by kernel_rfl) (fun _ _ _ h => h) (by rfl) (by assumption) ?_
        go_frame
        refine wpAnyH_skipD (some 37) (i := 14) rfl rfl (by kernel_rfl) (by kernel_rfl) (by kernel_rfl) (fun _ _ _ h => h) (by rfl) (by assumption) ?_
        go_frame
        refine wpAnyH_skipD (some 38) (i := 15) rfl rfl (by kernel_rfl) (by kernel_rfl) (by kernel_rfl) (fun _ _ _ h => h) (by rfl) (by assumption) ?_
        go_frame
        refine wpAnyH_skipD (some 39) (i := 16) rfl rfl (by kernel_rfl) (by kernel_rfl) (by kernel_rfl) (fun _ _ _ h => h) (by rfl) (by assumption) ?_
        go_frame
        refine wpAnyH_skipD (some 40) (i := 17) rfl rfl (by kernel_rfl) (by kernel_rfl) (by kernel_rfl) (fun _ _ _ h => h) (by rfl) (by assumption) ?_
        go_frame
        refine wpAnyH_skipD (some 41) (i := 18) rfl rfl (by kernel_rfl) (by kernel_rfl) (by kernel_rfl) (fun _ _ _ h => h) (by rfl) (by assumption) ?_
        go_frame
        refine wpAnyH_skipD (some 42) (i := 19) rfl rfl (by kernel_rfl) (by kernel_rfl) (by kernel_rfl) (fun _ _ _ h => h) (by rfl) (by assumption) ?_
        go_frame
        refine wpAnyH_skipD (some 43) (i := 20) rfl rfl (by kernel_rfl) (by kernel_rfl) (by kernel_rfl) (fun _ _ _ h => h) (by rfl) (by assumption) ?_
        go_frame
        refine wpAnyH_skipD (some 44) (i := 21) rfl rfl (by kernel_rfl) (by kernel_rfl) (by kernel_rfl) (fun _ _ _ h => h) (by rfl) (by assumption) ?_
        go_frame
        refine wpAnyH_skipD (some 45) (i := 22) rfl rfl (by kernel_rfl) (by kernel_rfl) (by kernel_rfl) (fun _ _ _ h => h) (by rfl) (by assumption) ?_
        go_frame
        refine wpAnyH_takeD (some 46) (i := 23) (v := ?vh1_23) rfl rfl (by kernel_rfl) (by kernel_rfl) (by kernel_rfl) (fun _ _ _ h => h) (by rfl) ?hh1_23 (by assumption) ?_
        case hh1_23 => (intro wq hSw; (try dsimp only at hSw); go_simp; (try (with_reducible rfl)))
        go_frame
        refine wpAnyH_done (by kernel_rfl) ?_ _
        refine NoPanic.normal ?_
        go_wp2_with fail
        go_roundw
        case rel => exact ⟨i + 1, m, by go_num, rfl, by rw [HN.out]; omega, HM.out.congr fun s' => (compB_skip (get_vs HS.out) hv s').symm, hbw.drew⟩
        case measure => simp [intOf]; omega
      · obtain ⟨sn, hsn⟩ := Int.eq_ofNat_of_zero_le (show 0 ≤ z by omega)
        rw [hsn]
        have HSn : Hid (s.vote.signer = (sn : Int)) := HZ.out.symm.trans hsn
        have d1 : decide ((sn : Int) < 0) = false := by simp
        clear hz0 hsn
        by_cases hk : nk ≤ sn
        · have d2 : decide (nk ≤ sn) = true := by simp; omega
          have d2i : decide ((nk : Int) ≤ (sn : Int)) = true := by simp; omega
          have hv : verK keys s.vote s.sig = false := by
            unfold verK; rw [HSn.out, decide_eq_false (show ¬ ((sn : Int) < (keys.length : Int)) by have := HNK.out; omega)]; simp
          refine wp_region_noPanic ?_
          refine wp_region_held_drew (S := fun _ => True) (by kernel_rfl) (trivial) (fun hHeld => ?_)
          refine wpAnyH_takeD (some 23) (i := 0) (v := ?vh2_0) rfl rfl (by kernel_rfl) (by kernel_rfl) (by kernel_rfl) (fun _ _ _ h => h) (by rfl) ?hh2_0 (by assumption) ?_
          case hh2_0 => (intro wq hSw; (try dsimp only at hSw); go_simp; (try (with_reducible rfl)))
          go_frame
          refine wpAnyH_takeD (some 24) (i := 1) (v := ?vh2_1) rfl rfl (by kernel_rfl) (by kernel_rfl) (by kernel_rfl) (fun _ _ _ h => h) (by rfl) ?hh2_1 (by assumption) ?_
          case hh2_1 => (intro wq hSw; (try dsimp only at hSw); go_simp; (try (with_reducible rfl)))
          go_frame
          refine wpAnyH_takeD (some 25) (i := 2) (v := ?vh2_2) rfl rfl (by kernel_rfl) (by kernel_rfl) (by kernel_rfl) (fun _ _ _ h => h) (by rfl) ?hh2_2 (by assumption) ?_
          case hh2_2 => (intro wq hSw; (try dsimp only at hSw); go_simp; (try (with_reducible rfl)))
          go_frame
          refine wpAnyH_takeD (some 26) (i := 3) (v := ?vh2_3) rfl rfl (by kernel_rfl) (by kernel_rfl) (by kernel_rfl) (fun _ _ _ h => h) (by rfl) ?hh2_3 (by assumption) ?_
          case hh2_3 => (intro wq hSw; (try dsimp only at hSw); go_simp; (try (with_reducible rfl)))
          go_frame
          refine wpAnyH_takeD (some 27) (i := 4) (v := ?vh2_4) rfl rfl (by kernel_rfl) (by kernel_rfl) (by kernel_rfl) (fun _ _ _ h => h) (by rfl) ?hh2_4 (by assumption) ?_
          case hh2_4 => (intro wq hSw; (try dsimp only at hSw); go_simp; (try (with_reducible rfl)))
          go_frame
          refine wpAnyH_takeD (some 28) (i := 5) (v := ?vh2_5) rfl rfl (by kernel_rfl) (by kernel_rfl) (by kernel_rfl) (fun _ _ _ h => h) (by rfl) ?hh2_5 (by assumption) ?_
          case hh2_5 => (intro wq hSw; (try dsimp only at hSw); go_simp; (try (with_reducible rfl)))
          go_frame
          refine wpAnyH_takeD (some 29) (i := 6) (v := ?vh2_6) rfl rfl (by kernel_rfl) (by kernel_rfl) (by kernel_rfl) (fun _ _ _ h => h) (by rfl) ?hh2_6 (by assumption) ?_
          case hh2_6 => (intro wq hSw; (try dsimp only at hSw); go_simp; (try (with_reducible rfl)))
          go_frame
          refine wpAnyH_takeD (some 30) (i := 7) (v := ?vh2_7) rfl rfl (by kernel_rfl) (by kernel_rfl) (by kernel_rfl) (fun _ _ _ h => h) (by rfl) ?hh2_7 (by assumption) ?_
          case hh2_7 => (intro wq hSw; (try dsimp only at hSw); go_simp; (try (with_reducible rfl)))
          go_frame
          refine wpAnyH_takeD (some 31) (i := 8) (v := ?vh2_8) rfl rfl (by kernel_rfl) (by kernel_rfl) (by kernel_rfl) (fun _ _ _ h => h) (by rfl) ?hh2_8 (by assumption) ?_
          case hh2_8 => (intro wq hSw; (try dsimp only at hSw); go_simp; (try (with_reducible rfl)))
          go_frame
          refine wpAnyH_skipD (some 32) (i := 9) rfl rfl (by kernel_rfl) (by kernel_rfl) (by kernel_rfl) (fun _ _ _ h => h) (by rfl) (by assumption) ?_
          go_frame
          refine wpAnyH_skipD (some 33) (i := 10) rfl rfl (by kernel_rfl) (by kernel_rfl) (by kernel_rfl) (fun _ _ _ h => h) (by rfl) (by assumption) ?_
          go_frame
          refine wpAnyH_takeD (some 34) (i := 11) (v := ?vh2_11) rfl rfl (by kernel_rfl) (by kernel_rfl) (by kernel_rfl) (fun _ _ _ h => h) (by rfl) ?hh2_11 (by assumption) ?_
          case hh2_11 => (intro wq hSw; (try dsimp only at hSw); go_simp; (try (with_reducible rfl)))
          go_frame
          refine wpAnyH_takeD (some 35) (i := 12) (v := ?vh2_12) rfl rfl (by kernel_rfl) (by kernel_rfl) (by kernel_rfl) (fun _ _ _ h => h) (by rfl) ?hh2_12 (by assumption) ?_
          case hh2_12 => (intro wq hSw; (try dsimp only at hSw); go_simp; (try (with_reducible rfl)))
          go_frame
          refine wpAnyH_skipD (some 36) (i := 13) rfl rfl (by kernel_rfl) (by kernel_rfl) (by kernel_rfl) (fun _ _ _ h => h) (by rfl) (by assumption) ?_
          go_frame
          refine wpAnyH_skipD (some 37) (i := 14) rfl rfl (by kernel_rfl) (by kernel_rfl) (by kernel_rfl) (fun _ _ _ h => h) (by rfl) (by assumption) ?_
          go_frame
          refine wpAnyH_skipD (some 38) (i := 15) rfl rfl (by kernel_rfl) (by kernel_rfl) (by kernel_rfl) (fun _ _ _ h => h) (by rfl) (by assumption) ?_
          go_frame
          refine wpAnyH_skipD (some 39) (i := 16) rfl rfl (by kernel_rfl) (by kernel_rfl) (by kernel_rfl) (fun _ _ _ h => h) (by rfl) (by assumption) ?_
          go_frame
          refine wpAnyH_skipD (some 40) (i := 17) rfl rfl (by kernel_rfl) (by kernel_rfl) (by kernel_rfl) (fun _ _ _ h => h) (by rfl) (by assumption) ?_
          go_frame
          refine wpAnyH_skipD (some 41) (i := 18) rfl rfl (by kernel_rfl) (by kernel_rfl) (by kernel_rfl) (fun _ _ _ h => h) (by rfl) (by assumption) ?_
          go_frame
          refine wpAnyH_skipD (some 42) (i := 19) rfl rfl (by kernel_rfl) (by kernel_rfl) (by kernel_rfl) (fun _ _ _ h => h) (by rfl) (by assumption) ?_
          go_frame
          refine wpAnyH_skipD (some 43) (i := 20) rfl rfl (by kernel_rfl) (by kernel_rfl) (by kernel_rfl) (fun _ _ _ h => h) (by rfl) (by assumption) ?_
          go_frame
          refine wpAnyH_skipD (some 44) (i := 21) rfl rfl (by kernel_rfl) (by kernel_rfl) (by kernel_rfl) (fun _ _ _ h => h) (by rfl) (by assumption) ?_
          go_frame
          refine wpAnyH_skipD (some 45) (i := 22) rfl rfl (by kernel_rfl) (by kernel_rfl) (by kernel_rfl) (fun _ _ _ h => h) (by rfl) (by assumption) ?_
          go_frame
          refine wpAnyH_takeD (some 46) (i := 23) (v := ?vh2_23) rfl rfl (by kernel_rfl) (by kernel_rfl) (by kernel_rfl) (fun _ _ _ h => h) (by rfl) ?hh2_23 (by assumption) ?_
          case hh2_23 => (intro wq hSw; (try dsimp only at hSw); go_simp; (try (with_reducible rfl)))
          go_frame
          refine wpAnyH_done (by kernel_rfl) ?_ _
          refine NoPanic.normal ?_
          go_wp2_with fail
          go_roundw
          case rel => exact ⟨i + 1, m, by go_num, rfl, by rw [HN.out]; omega, HM.out.congr fun s' => (compB_skip (get_vs HS.out) hv s').symm, hbw.drew⟩
          case measure => simp [intOf]; omega
        · have d2 : decide (nk ≤ sn) = false := by simp; omega
          have d2i : decide ((nk : Int) ≤ (sn : Int)) = false := by simp; omega
          by_cases h10 : 10 ≤ sn
          · have d3 : decide ((10 : Int) ≤ (sn : Int)) = true := by simp; omega
            have hv : verK keys s.vote s.sig = false := by
              rw [Bool.eq_false_iff]
              intro h
              have := (verK_valid h).2.1.2
              rw [HSn.out] at this; omega
            refine wp_region_noPanic ?_
            refine wp_region_held_drew (S := fun _ => True) (by kernel_rfl) (trivial) (fun hHeld => ?_)
            refine wpAnyH_takeD (some 23) (i := 0) (v := ?vh3_0) rfl rfl (by kernel_rfl) (by kernel_rfl) (by kernel_rfl) (fun _ _ _ h => h) (by rfl) ?hh3_0 (by assumption) ?_
            case hh3_0 => (intro wq hSw; (try dsimp only at hSw); go_simp; (try (with_reducible rfl)))
            go_frame
            refine wpAnyH_takeD (some 24) (i := 1) (v := ?vh3_1) rfl rfl (by kernel_rfl) (by kernel_rfl) (by kernel_rfl) (fun _ _ _ h => h) (by rfl) ?hh3_1 (by assumption) ?_
            case hh3_1 => (intro wq hSw; (try dsimp only at hSw); go_simp; (try (with_reducible rfl)))
            go_frame
            refine wpAnyH_takeD (some 25) (i := 2) (v := ?vh3_2) rfl rfl (by kernel_rfl) (by kernel_rfl) (by kernel_rfl) (fun _ _ _ h => h) (by rfl) ?hh3_2 (by assumption) ?_
            case hh3_2 => (intro wq hSw; (try dsimp only at hSw); go_simp; (try (with_reducible rfl)))
            go_frame
            refine wpAnyH_takeD (some 26) (i := 3) (v := ?vh3_3) rfl rfl (by kernel_rfl) (by kernel_rfl) (by kernel_rfl) (fun _ _ _ h => h) (by rfl) ?hh3_3 (by assumption) ?_
            case hh3_3 => (intro wq hSw; (try dsimp only at hSw); go_simp; (try (with_reducible rfl)))
            go_frame
            refine wpAnyH_takeD (some 27) (i := 4) (v := ?vh3_4) rfl rfl (by kernel_rfl) (by kernel_rfl) (by kernel_rfl) (fun _ _ _ h => h) (by rfl) ?hh3_4 (by assumption) ?_
            case hh3_4 => (intro wq hSw; (try dsimp only at hSw); go_simp; (try (with_reducible rfl)))
            go_frame
            refine wpAnyH_takeD (some 28) (i := 5) (v := ?vh3_5) rfl rfl (by kernel_rfl) (by kernel_rfl) (by kernel_rfl) (fun _ _ _ h => h) (by rfl) ?hh3_5 (by assumption) ?_
            case hh3_5 => (intro wq hSw; (try dsimp only at hSw); go_simp; (try (with_reducible rfl)))
            go_frame
            refine wpAnyH_takeD (some 29) (i := 6) (v := ?vh3_6) rfl rfl (by kernel_rfl) (by kernel_rfl) (by kernel_rfl) (fun _ _ _ h => h) (by rfl) ?hh3_6 (by assumption) ?_
            case hh3_6 => (intro wq hSw; (try dsimp only at hSw); go_simp; (try (with_reducible rfl)))
            go_frame
            refine wpAnyH_takeD (some 30) (i := 7) (v := ?vh3_7) rfl rfl (by kernel_rfl) (by kernel_rfl) (by kernel_rfl) (fun _ _ _ h => h) (by rfl) ?hh3_7 (by assumption) ?_
            case hh3_7 => (intro wq hSw; (try dsimp only at hSw); go_simp; (try (with_reducible rfl)))
            go_frame
            refine wpAnyH_takeD (some 31) (i := 8) (v := ?vh3_8) rfl rfl (by kernel_rfl) (by kernel_rfl) (by kernel_rfl) (fun _ _ _ h => h) (by rfl) ?hh3_8 (by assumption) ?_
            case hh3_8 => (intro wq hSw; (try dsimp only at hSw); go_simp; (try (with_reducible rfl)))
            go_frame
            refine wpAnyH_takeD (some 32) (i := 9) (v := ?vh3_9) rfl rfl (by kernel_rfl) (by kernel_rfl) (by kernel_rfl) (fun _ _ _ h => h) (by rfl) ?hh3_9 (by assumption) ?_
            case hh3_9 => (intro wq hSw; (try dsimp only at hSw); go_simp; (try (with_reducible rfl)))
            go_frame
            refine wpAnyH_takeD (some 33) (i := 10) (v := ?vh3_10) rfl rfl (by kernel_rfl) (by kernel_rfl) (by kernel_rfl) (fun _ _ _ h => h) (by rfl) ?hh3_10 (by assumption) ?_
            case hh3_10 => (intro wq hSw; (try dsimp only at hSw); go_simp; (try (with_reducible rfl)))
            go_frame
            refine wpAnyH_takeD (some 34) (i := 11) (v := ?vh3_11) rfl rfl (by kernel_rfl) (by kernel_rfl) (by kernel_rfl) (fun _ _ _ h => h) (by rfl) ?hh3_11 (by assumption) ?_
            case hh3_11 => (intro wq hSw; (try dsimp only at hSw); go_simp; (try (with_reducible rfl)))
            go_frame
            refine wpAnyH_takeD (some 35) (i := 12) (v := ?vh3_12) rfl rfl (by kernel_rfl) (by kernel_rfl) (by kernel_rfl) (fun _ _ _ h => h) (by rfl) ?hh3_12 (by assumption) ?_
            case hh3_12 => (intro wq hSw; (try dsimp only at hSw); go_simp; (try (with_reducible rfl)))
            go_frame
            refine wpAnyH_skipD (some 36) (i := 13) rfl rfl (by kernel_rfl) (by kernel_rfl) (by kernel_rfl) (fun _ _ _ h => h) (by rfl) (by assumption) ?_
            go_frame
            refine wpAnyH_skipD (some 37) (i := 14) rfl rfl (by kernel_rfl) (by kernel_rfl) (by kernel_rfl) (fun _ _ _ h => h) (by rfl) (by assumption) ?_
            go_frame
            refine wpAnyH_skipD (some 38) (i := 15) rfl rfl (by kernel_rfl) (by kernel_rfl) (by kernel_rfl) (fun _ _ _ h => h) (by rfl) (by assumption) ?_
            go_frame
            refine wpAnyH_skipD (some 39) (i := 16) rfl rfl (by kernel_rfl) (by kernel_rfl) (by kernel_rfl) (fun _ _ _ h => h) (by rfl) (by assumption) ?_
            go_frame
            refine wpAnyH_skipD (some 40) (i := 17) rfl rfl (by kernel_rfl) (by kernel_rfl) (by kernel_rfl) (fun _ _ _ h => h) (by rfl) (by assumption) ?_
            go_frame
            refine wpAnyH_skipD (some 41) (i := 18) rfl rfl (by kernel_rfl) (by kernel_rfl) (by kernel_rfl) (fun _ _ _ h => h) (by rfl) (by assumption) ?_
            go_frame
            refine wpAnyH_skipD (some 42) (i := 19) rfl rfl (by kernel_rfl) (by kernel_rfl) (by kernel_rfl) (fun _ _ _ h => h) (by rfl) (by assumption) ?_
            go_frame
            refine wpAnyH_skipD (some 43) (i := 20) rfl rfl (by kernel_rfl) (by kernel_rfl) (by kernel_rfl) (fun _ _ _ h => h) (by rfl) (by assumption) ?_
            go_frame
            refine wpAnyH_skipD (some 44) (i := 21) rfl rfl (by kernel_rfl) (by kernel_rfl) (by kernel_rfl) (fun _ _ _ h => h) (by rfl) (by assumption) ?_
            go_frame
            refine wpAnyH_skipD (some 45) (i := 22) rfl rfl (by kernel_rfl) (by kernel_rfl) (by kernel_rfl) (fun _ _ _ h => h) (by rfl) (by assumption) ?_
            go_frame
            refine wpAnyH_takeD (some 46) (i := 23) (v := ?vh3_23) rfl rfl (by kernel_rfl) (by kernel_rfl) (by kernel_rfl) (fun _ _ _ h => h) (by rfl) ?hh3_23 (by assumption) ?_
            case hh3_23 => (intro wq hSw; (try dsimp only at hSw); go_simp; (try (with_reducible rfl)))
            go_frame
            refine wpAnyH_done (by kernel_rfl) ?_ _
            refine NoPanic.normal ?_
            go_wp2_with fail
            go_roundw
            case rel => exact ⟨i + 1, m, by go_num, rfl, by rw [HN.out]; omega, HM.out.congr fun s' => (compB_skip (get_vs HS.out) hv s').symm, hbw.drew⟩
            case measure => simp [intOf]; omega
          · have d3 : decide ((10 : Int) ≤ (sn : Int)) = false := by simp; omega
            have i2 : (0 : Int) ≤ (sn : Int) := by omega
            have i3 : (sn : Int) < (nk : Int) := by omega
            have hsl : sn < keys.length := by rw [HNK.out]; omega
            obtain ⟨bK, oK, rfl, _, _⟩ := HK.out.cells (by intro e; have := flat_length nmc 8 keys (nmc_len keys); rw [e] at this; simp at this; omega)
            obtain ⟨key, hkey⟩ : ∃ key, key = keys.getD sn Nm.zero := ⟨_, rfl⟩
            have hKr : Hid (∀ V, Below w.heap.size w V → rowAt V bK (oK + sn * 8) 8 = some key.cells) := fun V hV => by rw [hkey]; exact (HK.out.below hV).row (getD_some Nm.zero hsl)
            have HVer : Hid (∀ (y : Sg) (V : World), y ∈ l → Below w.heap.size w V → Calls Try.prog 54 #[key.val, y.val] V (BoolPost V (verS key y.vote y.sig))) := fun y V hy hV => sver_any key y V (((HOk.out y hy).1.below hV).more hV.size) (HOk.out y hy).2
            have hvk : Hid (∀ y : Sg, y.vote.signer = (sn : Int) → verK keys y.vote y.sig = verS key y.vote y.sig) := fun y hy => by rw [hkey]; exact verK_at hy hsl
            clear hkey hsl
            have hsm : Hid (s ∈ l) := List.mem_of_getElem? HS.out
            obtain ⟨r, hr⟩ : ∃ r, r = verS key s.vote s.sig := ⟨_, rfl⟩
            have hV1 : Hid (∀ V, Below w.heap.size w V → Calls Try.prog 54 #[key.val, s.val] V (BoolPost V r)) := fun V hV => by rw [hr]; exact HVer.out s V hsm.out hV
            have HV : Hid (verK keys s.vote s.sig = r) := (hvk.out s HSn.out).trans hr.symm
            clear hr
            have HRows : Hid (∀ V, Below w.heap.size w V → rowAt V bK (oK + sn * 8) 8 = some key.cells ∧ rowAt V b (o + i * 23) 23 = some s.cells) := fun V hV => ⟨hKr.out V hV, (HR.out.below hV).sgRow HS.out⟩
            cases r with
            | false =>
              refine wp_region_noPanic ?_
              refine wp_region_held_drew (S := fun w' => rowAt w' bK (oK + sn * 8) 8 = some key.cells ∧ rowAt w' b (o + i * 23) 23 = some s.cells) (by kernel_rfl) (HRows.out _ hbw.drew) (fun hHeld => ?_)
              refine wpAnyH_takeD (some 23) (i := 0) (v := ?vh4_0) rfl rfl (by kernel_rfl) (by kernel_rfl) (by kernel_rfl) (fun _ _ _ h => h) (by rfl) ?hh4_0 (by assumption) ?_
              case hh4_0 => (intro wq hSw; (try dsimp only at hSw); go_simp; (try (with_reducible rfl)))
              go_frame
              refine wpAnyH_takeD (some 24) (i := 1) (v := ?vh4_1) rfl rfl (by kernel_rfl) (by kernel_rfl) (by kernel_rfl) (fun _ _ _ h => h) (by rfl) ?hh4_1 (by assumption) ?_
              case hh4_1 => (intro wq hSw; (try dsimp only at hSw); go_simp; (try (with_reducible rfl)))
              go_frame
              refine wpAnyH_takeD (some 25) (i := 2) (v := ?vh4_2) rfl rfl (by kernel_rfl) (by kernel_rfl) (by kernel_rfl) (fun _ _ _ h => h) (by rfl) ?hh4_2 (by assumption) ?_
              case hh4_2 => (intro wq hSw; (try dsimp only at hSw); go_simp; (try (with_reducible rfl)))
              go_frame
              refine wpAnyH_takeD (some 26) (i := 3) (v := ?vh4_3) rfl rfl (by kernel_rfl) (by kernel_rfl) (by kernel_rfl) (fun _ _ _ h => h) (by rfl) ?hh4_3 (by assumption) ?_
              case hh4_3 => (intro wq hSw; (try dsimp only at hSw); go_simp; (try (with_reducible rfl)))
              go_frame
              refine wpAnyH_takeD (some 27) (i := 4) (v := ?vh4_4) rfl rfl (by kernel_rfl) (by kernel_rfl) (by kernel_rfl) (fun _ _ _ h => h) (by rfl) ?hh4_4 (by assumption) ?_
              case hh4_4 => (intro wq hSw; (try dsimp only at hSw); go_simp; (try (with_reducible rfl)))
              go_frame
              refine wpAnyH_takeD (some 28) (i := 5) (v := ?vh4_5) rfl rfl (by kernel_rfl) (by kernel_rfl) (by kernel_rfl) (fun _ _ _ h => h) (by rfl) ?hh4_5 (by assumption) ?_
              case hh4_5 => (intro wq hSw; (try dsimp only at hSw); go_simp; (try (with_reducible rfl)))
              go_frame
              refine wpAnyH_takeD (some 29) (i := 6) (v := ?vh4_6) rfl rfl (by kernel_rfl) (by kernel_rfl) (by kernel_rfl) (fun _ _ _ h => h) (by rfl) ?hh4_6 (by assumption) ?_
              case hh4_6 => (intro wq hSw; (try dsimp only at hSw); go_simp; (try (with_reducible rfl)))
              go_frame
              refine wpAnyH_takeD (some 30) (i := 7) (v := ?vh4_7) rfl rfl (by kernel_rfl) (by kernel_rfl) (by kernel_rfl) (fun _ _ _ h => h) (by rfl) ?hh4_7 (by assumption) ?_
              case hh4_7 => (intro wq hSw; (try dsimp only at hSw); go_simp; (try (with_reducible rfl)))
              go_frame
              refine wpAnyH_takeD (some 31) (i := 8) (v := ?vh4_8) rfl rfl (by kernel_rfl) (by kernel_rfl) (by kernel_rfl) (fun _ _ _ h => h) (by rfl) ?hh4_8 (by assumption) ?_
              case hh4_8 => (intro wq hSw; (try dsimp only at hSw); go_simp; (try (with_reducible rfl)))
              go_frame
              refine wpAnyH_takeD (some 32) (i := 9) (v := ?vh4_9) rfl rfl (by kernel_rfl) (by kernel_rfl) (by kernel_rfl) (fun _ _ _ h => h) (by rfl) ?hh4_9 (by assumption) ?_
              case hh4_9 => (intro wq hSw; (try dsimp only at hSw); go_simp; (try (with_reducible rfl)))
              go_frame
              refine wpAnyH_takeD (some 33) (i := 10) (v := ?vh4_10) rfl rfl (by kernel_rfl) (by kernel_rfl) (by kernel_rfl) (fun _ _ _ h => h) (by rfl) ?hh4_10 (by assumption) ?_
              case hh4_10 => (intro wq hSw; (try dsimp only at hSw); go_simp; (try (with_reducible rfl)))
              go_frame
              refine wpAnyH_takeD (some 34) (i := 11) (v := ?vh4_11) rfl rfl (by kernel_rfl) (by kernel_rfl) (by kernel_rfl) (fun _ _ _ h => h) (by rfl) ?hh4_11 (by assumption) ?_
              case hh4_11 => (intro wq hSw; (try dsimp only at hSw); go_simp; (try (with_reducible rfl)))
              go_frame
              refine wpAnyH_takeD (some 35) (i := 12) (v := ?vh4_12) rfl rfl (by kernel_rfl) (by kernel_rfl) (by kernel_rfl) (fun _ _ _ h => h) (by rfl) ?hh4_12 (by assumption) ?_
              case hh4_12 => (intro wq hSw; (try dsimp only at hSw); go_simp; (try (with_reducible rfl)))
              go_frame
              refine wpAnyH_takeD (some 36) (i := 13) (v := ?vh4_13) rfl rfl (by kernel_rfl) (by kernel_rfl) (by kernel_rfl) (fun _ _ _ h => h) (by rfl) ?hh4_13 (by assumption) ?_
              case hh4_13 => (intro wq hSw; (try dsimp only at hSw); go_simp; (try (with_reducible rfl)))
              go_frame
              refine wpAnyH_takeD (some 37) (i := 14) (v := ?vh4_14) rfl rfl (by kernel_rfl) (by kernel_rfl) (by kernel_rfl) (fun _ _ _ h => h) (by rfl) ?hh4_14 (by assumption) ?_
              case hh4_14 => (intro wq hSw; (try dsimp only at hSw); go_simp; (try (with_reducible rfl)))
              go_frame
              refine wpAnyH_takeD (some 38) (i := 15) (v := ?vh4_15) rfl rfl (by kernel_rfl) (by kernel_rfl) (by kernel_rfl) (fun _ _ _ h => h) (by rfl) ?hh4_15 (by assumption) ?_
              case hh4_15 => (intro wq hSw; (try dsimp only at hSw); go_simp; (try (with_reducible rfl)))
              go_frame
              refine wpAnyH_takeD (some 39) (i := 16) (v := ?vh4_16) rfl rfl (by kernel_rfl) (by kernel_rfl) (by kernel_rfl) (fun _ _ _ h => h) (by rfl) ?hh4_16 (by assumption) ?_
              case hh4_16 => (intro wq hSw; (try dsimp only at hSw); go_simp; (try (with_reducible rfl)))
              go_frame
              refine wpAnyH_takeD (some 40) (i := 17) (v := ?vh4_17) rfl rfl (by kernel_rfl) (by kernel_rfl) (by kernel_rfl) (fun _ _ _ h => h) (by rfl) ?hh4_17 (by assumption) ?_
              case hh4_17 => (intro wq hSw; (try dsimp only at hSw); go_simp; (try (with_reducible rfl)))
              go_frame
              refine wpAnyH_takeD (some 41) (i := 18) (v := ?vh4_18) rfl rfl (by kernel_rfl) (by kernel_rfl) (by kernel_rfl) (fun _ _ _ h => h) (by rfl) ?hh4_18 (by assumption) ?_
              case hh4_18 => (intro wq hSw; (try dsimp only at hSw); go_simp; (try (with_reducible rfl)))
              go_frame
              refine wpAnyH_takeD (some 42) (i := 19) (v := ?vh4_19) rfl rfl (by kernel_rfl) (by kernel_rfl) (by kernel_rfl) (fun _ _ _ h => h) (by rfl) ?hh4_19 (by assumption) ?_
              case hh4_19 => (intro wq hSw; (try dsimp only at hSw); go_simp; (try (with_reducible rfl)))
              go_frame
              refine wpAnyH_takeD (some 43) (i := 20) (v := ?vh4_20) rfl rfl (by kernel_rfl) (by kernel_rfl) (by kernel_rfl) (fun _ _ _ h => h) (by rfl) ?hh4_20 (by assumption) ?_
              case hh4_20 => (intro wq hSw; (try dsimp only at hSw); go_simp; (try (with_reducible rfl)))
              go_frame
              refine wpAnyH_ready (rs := [21]) (by kernel_rfl) (by simp) ?_
              refine AllReadyH.cons rfl (fun K hK => ?_) AllReadyH.nil
              go_simp
              refine (hV1.out _ hbw.drew).mono ?_; rintro en w3 ⟨rfl, hb3⟩; have hbw3 := hbw.drew.trans (hb3.mono hbw.size)
              go_wp2_with fail
              refine hK.out _ _ (HRows.out _ hbw3) (fun hHeld => ?_)
              clear hK K
              try go_frame
              refine wpAnyH_takeD (some 45) (i := 22) (v := ?vh4_22) rfl rfl (by kernel_rfl) (by kernel_rfl) (by kernel_rfl) (fun _ _ _ h => h) (by rfl) ?hh4_22 (by assumption) ?_
              case hh4_22 => (intro wq hSw; (try dsimp only at hSw); go_simp; (try (with_reducible rfl)))
              go_frame
              refine wpAnyH_takeD (some 46) (i := 23) (v := ?vh4_23) rfl rfl (by kernel_rfl) (by kernel_rfl) (by kernel_rfl) (fun _ _ _ h => h) (by rfl) ?hh4_23 (by assumption) ?_
              case hh4_23 => (intro wq hSw; (try dsimp only at hSw); go_simp; (try (with_reducible rfl)))
              go_frame
              refine wpAnyH_done (by kernel_rfl) ?_ _
              refine NoPanic.normal ?_
              go_wp2_with fail
              go_roundw
              case rel => exact ⟨i + 1, m, by go_num, rfl, by rw [HN.out]; omega, HM.out.congr fun s' => (compB_skip (get_vs HS.out) HV.out s').symm, hbw3⟩
              case measure => simp [intOf]; omega
            | true =>
              refine wp_region_noPanic ?_
              refine wp_region_held_drew (S := fun w' => rowAt w' bK (oK + sn * 8) 8 = some key.cells ∧ rowAt w' b (o + i * 23) 23 = some s.cells) (by kernel_rfl) (HRows.out _ hbw.drew) (fun hHeld => ?_)
              refine wpAnyH_takeD (some 23) (i := 0) (v := ?vh5_0) rfl rfl (by kernel_rfl) (by kernel_rfl) (by kernel_rfl) (fun _ _ _ h => h) (by rfl) ?hh5_0 (by assumption) ?_
              case hh5_0 => (intro wq hSw; (try dsimp only at hSw); go_simp; (try (with_reducible rfl)))
              go_frame
              refine wpAnyH_takeD (some 24) (i := 1) (v := ?vh5_1) rfl rfl (by kernel_rfl) (by kernel_rfl) (by kernel_rfl) (fun _ _ _ h => h) (by rfl) ?hh5_1 (by assumption) ?_
              case hh5_1 => (intro wq hSw; (try dsimp only at hSw); go_simp; (try (with_reducible rfl)))
              go_frame
              refine wpAnyH_takeD (some 25) (i := 2) (v := ?vh5_2) rfl rfl (by kernel_rfl) (by kernel_rfl) (by kernel_rfl) (fun _ _ _ h => h) (by rfl) ?hh5_2 (by assumption) ?_
              case hh5_2 => (intro wq hSw; (try dsimp only at hSw); go_simp; (try (with_reducible rfl)))
              go_frame
              refine wpAnyH_takeD (some 26) (i := 3) (v := ?vh5_3) rfl rfl (by kernel_rfl) (by kernel_rfl) (by kernel_rfl) (fun _ _ _ h => h) (by rfl) ?hh5_3 (by assumption) ?_
              case hh5_3 => (intro wq hSw; (try dsimp only at hSw); go_simp; (try (with_reducible rfl)))
              go_frame
              refine wpAnyH_takeD (some 27) (i := 4) (v := ?vh5_4) rfl rfl (by kernel_rfl) (by kernel_rfl) (by kernel_rfl) (fun _ _ _ h => h) (by rfl) ?hh5_4 (by assumption) ?_
              case hh5_4 => (intro wq hSw; (try dsimp only at hSw); go_simp; (try (with_reducible rfl)))
              go_frame
              refine wpAnyH_takeD (some 28) (i := 5) (v := ?vh5_5) rfl rfl (by kernel_rfl) (by kernel_rfl) (by kernel_rfl) (fun _ _ _ h => h) (by rfl) ?hh5_5 (by assumption) ?_
              case hh5_5 => (intro wq hSw; (try dsimp only at hSw); go_simp; (try (with_reducible rfl)))
              go_frame
              refine wpAnyH_takeD (some 29) (i := 6) (v := ?vh5_6) rfl rfl (by kernel_rfl) (by kernel_rfl) (by kernel_rfl) (fun _ _ _ h => h) (by rfl) ?hh5_6 (by assumption) ?_
              case hh5_6 => (intro wq hSw; (try dsimp only at hSw); go_simp; (try (with_reducible rfl)))
              go_frame
              refine wpAnyH_takeD (some 30) (i := 7) (v := ?vh5_7) rfl rfl (by kernel_rfl) (by kernel_rfl) (by kernel_rfl) (fun _ _ _ h => h) (by rfl) ?hh5_7 (by assumption) ?_
              case hh5_7 => (intro wq hSw; (try dsimp only at hSw); go_simp; (try (with_reducible rfl)))
              go_frame
              refine wpAnyH_takeD (some 31) (i := 8) (v := ?vh5_8) rfl rfl (by kernel_rfl) (by kernel_rfl) (by kernel_rfl) (fun _ _ _ h => h) (by rfl) ?hh5_8 (by assumption) ?_
              case hh5_8 => (intro wq hSw; (try dsimp only at hSw); go_simp; (try (with_reducible rfl)))
              go_frame
              refine wpAnyH_takeD (some 32) (i := 9) (v := ?vh5_9) rfl rfl (by kernel_rfl) (by kernel_rfl) (by kernel_rfl) (fun _ _ _ h => h) (by rfl) ?hh5_9 (by assumption) ?_
              case hh5_9 => (intro wq hSw; (try dsimp only at hSw); go_simp; (try (with_reducible rfl)))
              go_frame
              refine wpAnyH_takeD (some 33) (i := 10) (v := ?vh5_10) rfl rfl (by kernel_rfl) (by kernel_rfl) (by kernel_rfl) (fun _ _ _ h => h) (by rfl) ?hh5_10 (by assumption) ?_
              case hh5_10 => (intro wq hSw; (try dsimp only at hSw); go_simp; (try (with_reducible rfl)))
              go_frame
              refine wpAnyH_takeD (some 34) (i := 11) (v := ?vh5_11) rfl rfl (by kernel_rfl) (by kernel_rfl) (by kernel_rfl) (fun _ _ _ h => h) (by rfl) ?hh5_11 (by assumption) ?_
              case hh5_11 => (intro wq hSw; (try dsimp only at hSw); go_simp; (try (with_reducible rfl)))
              go_frame
              refine wpAnyH_takeD (some 35) (i := 12) (v := ?vh5_12) rfl rfl (by kernel_rfl) (by kernel_rfl) (by kernel_rfl) (fun _ _ _ h => h) (by rfl) ?hh5_12 (by assumption) ?_
              case hh5_12 => (intro wq hSw; (try dsimp only at hSw); go_simp; (try (with_reducible rfl)))
              go_frame
              refine wpAnyH_takeD (some 36) (i := 13) (v := ?vh5_13) rfl rfl (by kernel_rfl) (by kernel_rfl) (by kernel_rfl) (fun _ _ _ h => h) (by rfl) ?hh5_13 (by assumption) ?_
              case hh5_13 => (intro wq hSw; (try dsimp only at hSw); go_simp; (try (with_reducible rfl)))
              go_frame
              refine wpAnyH_takeD (some 37) (i := 14) (v := ?vh5_14) rfl rfl (by kernel_rfl) (by kernel_rfl) (by kernel_rfl) (fun _ _ _ h => h) (by rfl) ?hh5_14 (by assumption) ?_
              case hh5_14 => (intro wq hSw; (try dsimp only at hSw); go_simp; (try (with_reducible rfl)))
              go_frame
              refine wpAnyH_takeD (some 38) (i := 15) (v := ?vh5_15) rfl rfl (by kernel_rfl) (by kernel_rfl) (by kernel_rfl) (fun _ _ _ h => h) (by rfl) ?hh5_15 (by assumption) ?_
              case hh5_15 => (intro wq hSw; (try dsimp only at hSw); go_simp; (try (with_reducible rfl)))
              go_frame
              refine wpAnyH_takeD (some 39) (i := 16) (v := ?vh5_16) rfl rfl (by kernel_rfl) (by kernel_rfl) (by kernel_rfl) (fun _ _ _ h => h) (by rfl) ?hh5_16 (by assumption) ?_
              case hh5_16 => (intro wq hSw; (try dsimp only at hSw); go_simp; (try (with_reducible rfl)))
              go_frame
              refine wpAnyH_takeD (some 40) (i := 17) (v := ?vh5_17) rfl rfl (by kernel_rfl) (by kernel_rfl) (by kernel_rfl) (fun _ _ _ h => h) (by rfl) ?hh5_17 (by assumption) ?_
              case hh5_17 => (intro wq hSw; (try dsimp only at hSw); go_simp; (try (with_reducible rfl)))
              go_frame
              refine wpAnyH_takeD (some 41) (i := 18) (v := ?vh5_18) rfl rfl (by kernel_rfl) (by kernel_rfl) (by kernel_rfl) (fun _ _ _ h => h) (by rfl) ?hh5_18 (by assumption) ?_
              case hh5_18 => (intro wq hSw; (try dsimp only at hSw); go_simp; (try (with_reducible rfl)))
              go_frame
              refine wpAnyH_takeD (some 42) (i := 19) (v := ?vh5_19) rfl rfl (by kernel_rfl) (by kernel_rfl) (by kernel_rfl) (fun _ _ _ h => h) (by rfl) ?hh5_19 (by assumption) ?_
              case hh5_19 => (intro wq hSw; (try dsimp only at hSw); go_simp; (try (with_reducible rfl)))
              go_frame
              refine wpAnyH_takeD (some 43) (i := 20) (v := ?vh5_20) rfl rfl (by kernel_rfl) (by kernel_rfl) (by kernel_rfl) (fun _ _ _ h => h) (by rfl) ?hh5_20 (by assumption) ?_
              case hh5_20 => (intro wq hSw; (try dsimp only at hSw); go_simp; (try (with_reducible rfl)))
              go_frame
              refine wpAnyH_ready (rs := [21]) (by kernel_rfl) (by simp) ?_
              refine AllReadyH.cons rfl (fun K hK => ?_) AllReadyH.nil
              go_simp
              refine (hV1.out _ hbw.drew).mono ?_; rintro en w3 ⟨rfl, hb3⟩; have hbw3 := hbw.drew.trans (hb3.mono hbw.size)
              go_wp2_with fail
              refine hK.out _ _ (HRows.out _ hbw3) (fun hHeld => ?_)
              clear hK K
              try go_frame
              refine wpAnyH_takeD (some 45) (i := 22) (v := ?vh5_22) rfl rfl (by kernel_rfl) (by kernel_rfl) (by kernel_rfl) (fun _ _ _ h => h) (by rfl) ?hh5_22 (by assumption) ?_
              case hh5_22 => (intro wq hSw; (try dsimp only at hSw); go_simp; (try (with_reducible rfl)))
              go_frame
              refine wpAnyH_takeD (some 46) (i := 23) (v := ?vh5_23) rfl rfl (by kernel_rfl) (by kernel_rfl) (by kernel_rfl) (fun _ _ _ h => h) (by rfl) ?hh5_23 (by assumption) ?_
              case hh5_23 => (intro wq hSw; (try dsimp only at hSw); go_simp; (try (with_reducible rfl)))
              go_frame
              refine wpAnyH_done (by kernel_rfl) ?_ _
              refine NoPanic.normal ?_
              go_wp2_with fail
              go_loopw [5, 8] (fun mv kv wr => CRel2 keys l i w mv kv wr) (fun _ kv _ => i - (intOf kv).toNat)
              case atStart => exact ⟨0, m, rfl, rfl, Nat.zero_le _, HM.out.congr fun s' => compI_zero s' |>.symm, hbw3⟩
              case round =>
                clear hbw hbw3 hb3 HM
                obtain ⟨k, m2, rfl, rfl, hki, hM2, hbw⟩ := hrel
                have HM2 := Lib.hid hM2
                clear hM2
                by_cases hk2 : k < i
                · have dk : decide ((k : Int) < (i : Int)) = true := by simp; omega
                  have k0 : (0 : Int) ≤ (k : Int) := by omega
                  have k1 : (k : Int) < (n' : Int) := by omega
                  obtain ⟨y, hy⟩ : ∃ y, l[k]? = some y := ⟨_, List.getElem?_eq_getElem (by rw [HN.out]; omega)⟩
                  have hym : Hid (y ∈ l) := List.mem_of_getElem? hy
                  obtain ⟨cb, hcb⟩ : ∃ cb, cb = decide (ConfP s.vote y.vote) := ⟨_, rfl⟩
                  have HCf : Hid (∀ V, Calls Try.prog 55 #[s.vote.val, y.vote.val] V (BoolPost V cb)) := fun V => by rw [hcb]; exact conf_any s.vote y.vote V (HOk.out s hsm.out).1.1 (HOk.out y hym.out).1.1
                  have HCb := Lib.hid hcb
                  have HY := Lib.hid hy
                  clear hcb hy
                  have HRows2 : Hid (∀ V, Below w.heap.size w V → rowAt V b (o + i * 23) 22 = some s.vote.cells ∧ rowAt V b (o + k * 23) 22 = some y.vote.cells ∧ rowAt V bK (oK + sn * 8) 8 = some key.cells ∧ rowAt V b (o + k * 23) 23 = some y.cells) := fun V hV =>
                    ⟨(HR.out.below hV).sgVote HS.out, (HR.out.below hV).sgVote HY.out, hKr.out V hV, (HR.out.below hV).sgRow HY.out⟩
                  go_upto_region 11 with fail
                  cases cb with
                  | false =>
                    refine wp_region_noPanic ?_
                    refine wp_region_held_drew (S := fun w' => rowAt w' b (o + i * 23) 22 = some s.vote.cells ∧ rowAt w' b (o + k * 23) 22 = some y.vote.cells ∧ rowAt w' bK (oK + sn * 8) 8 = some key.cells ∧ rowAt w' b (o + k * 23) 23 = some y.cells) (by kernel_rfl) (HRows2.out _ hbw.drew) (fun hHeld => ?_)
                    refine wpAnyH_takeD (some 52) (i := 0) (v := ?vh6_0) rfl rfl (by kernel_rfl) (by kernel_rfl) (by kernel_rfl) (fun _ _ _ h => h) (by rfl) ?hh6_0 (by assumption) ?_
                    case hh6_0 => (intro wq hSw; (try dsimp only at hSw); go_simp; (try (with_reducible rfl)))
                    go_frame
                    refine wpAnyH_takeD (some 53) (i := 1) (v := ?vh6_1) rfl rfl (by kernel_rfl) (by kernel_rfl) (by kernel_rfl) (fun _ _ _ h => h) (by rfl) ?hh6_1 (by assumption) ?_
                    case hh6_1 => (intro wq hSw; (try dsimp only at hSw); go_simp; (try (with_reducible rfl)))
                    go_frame
                    refine wpAnyH_takeD (some 54) (i := 2) (v := ?vh6_2) rfl rfl (by kernel_rfl) (by kernel_rfl) (by kernel_rfl) (fun _ _ _ h => h) (by rfl) ?hh6_2 (by assumption) ?_
                    case hh6_2 => (intro wq hSw; (try dsimp only at hSw); go_simp; (try (with_reducible rfl)))
                    go_frame
                    refine wpAnyH_takeD (some 55) (i := 3) (v := ?vh6_3) rfl rfl (by kernel_rfl) (by kernel_rfl) (by kernel_rfl) (fun _ _ _ h => h) (by rfl) ?hh6_3 (by assumption) ?_
                    case hh6_3 => (intro wq hSw; (try dsimp only at hSw); go_simp; (try (with_reducible rfl)))
                    go_frame
                    refine wpAnyH_takeD (some 56) (i := 4) (v := ?vh6_4) rfl rfl (by kernel_rfl) (by kernel_rfl) (by kernel_rfl) (fun _ _ _ h => h) (by rfl) ?hh6_4 (by assumption) ?_
                    case hh6_4 => (intro wq hSw; (try dsimp only at hSw); go_simp; (try (with_reducible rfl)))
                    go_frame
                    refine wpAnyH_takeD (some 57) (i := 5) (v := ?vh6_5) rfl rfl (by kernel_rfl) (by kernel_rfl) (by kernel_rfl) (fun _ _ _ h => h) (by rfl) ?hh6_5 (by assumption) ?_
                    case hh6_5 => (intro wq hSw; (try dsimp only at hSw); go_simp; (try (with_reducible rfl)))
                    go_frame
                    refine wpAnyH_takeD (some 58) (i := 6) (v := ?vh6_6) rfl rfl (by kernel_rfl) (by kernel_rfl) (by kernel_rfl) (fun _ _ _ h => h) (by rfl) ?hh6_6 (by assumption) ?_
                    case hh6_6 => (intro wq hSw; (try dsimp only at hSw); go_simp; (try (with_reducible rfl)))
                    go_frame
                    refine wpAnyH_takeD (some 59) (i := 7) (v := ?vh6_7) rfl rfl (by kernel_rfl) (by kernel_rfl) (by kernel_rfl) (fun _ _ _ h => h) (by rfl) ?hh6_7 (by assumption) ?_
                    case hh6_7 => (intro wq hSw; (try dsimp only at hSw); go_simp; (try (with_reducible rfl)))
                    go_frame
                    refine wpAnyH_takeD (some 60) (i := 8) (v := ?vh6_8) rfl rfl (by kernel_rfl) (by kernel_rfl) (by kernel_rfl) (fun _ _ _ h => h) (by rfl) ?hh6_8 (by assumption) ?_
                    case hh6_8 => (intro wq hSw; (try dsimp only at hSw); go_simp; (try (with_reducible rfl)))
                    go_frame
                    refine wpAnyH_takeD (some 61) (i := 9) (v := ?vh6_9) rfl rfl (by kernel_rfl) (by kernel_rfl) (by kernel_rfl) (fun _ _ _ h => h) (by rfl) ?hh6_9 (by assumption) ?_
                    case hh6_9 => (intro wq hSw; (try dsimp only at hSw); go_simp; (try (with_reducible rfl)))
                    go_frame
                    refine wpAnyH_ready (rs := [10]) (by kernel_rfl) (by simp) ?_
                    refine AllReadyH.cons rfl (fun K hK => ?_) AllReadyH.nil
                    go_simp
                    refine (HCf.out _).mono ?_; rintro en w4 ⟨rfl, hb4⟩; have hbw4 := hbw.drew.trans (hb4.mono hbw.size)
                    go_wp2_with fail
                    refine hK.out _ _ (HRows2.out _ hbw4) (fun hHeld => ?_)
                    clear hK K
                    try go_frame
                    refine wpAnyH_takeD (some 63) (i := 11) (v := ?vh6_11) rfl rfl (by kernel_rfl) (by kernel_rfl) (by kernel_rfl) (fun _ _ _ h => h) (by rfl) ?hh6_11 (by assumption) ?_
                    case hh6_11 => (intro wq hSw; (try dsimp only at hSw); go_simp; (try (with_reducible rfl)))
                    go_frame
                    refine wpAnyH_skipD (some 64) (i := 12) rfl rfl (by kernel_rfl) (by kernel_rfl) (by kernel_rfl) (fun _ _ _ h => h) (by rfl) (by assumption) ?_
                    go_frame
                    refine wpAnyH_skipD (some 65) (i := 13) rfl rfl (by kernel_rfl) (by kernel_rfl) (by kernel_rfl) (fun _ _ _ h => h) (by rfl) (by assumption) ?_
                    go_frame
                    refine wpAnyH_skipD (some 66) (i := 14) rfl rfl (by kernel_rfl) (by kernel_rfl) (by kernel_rfl) (fun _ _ _ h => h) (by rfl) (by assumption) ?_
                    go_frame
                    refine wpAnyH_skipD (some 67) (i := 15) rfl rfl (by kernel_rfl) (by kernel_rfl) (by kernel_rfl) (fun _ _ _ h => h) (by rfl) (by assumption) ?_
                    go_frame
                    refine wpAnyH_skipD (some 68) (i := 16) rfl rfl (by kernel_rfl) (by kernel_rfl) (by kernel_rfl) (fun _ _ _ h => h) (by rfl) (by assumption) ?_
                    go_frame
                    refine wpAnyH_skipD (some 69) (i := 17) rfl rfl (by kernel_rfl) (by kernel_rfl) (by kernel_rfl) (fun _ _ _ h => h) (by rfl) (by assumption) ?_
                    go_frame
                    refine wpAnyH_skipD (some 70) (i := 18) rfl rfl (by kernel_rfl) (by kernel_rfl) (by kernel_rfl) (fun _ _ _ h => h) (by rfl) (by assumption) ?_
                    go_frame
                    refine wpAnyH_skipD (some 71) (i := 19) rfl rfl (by kernel_rfl) (by kernel_rfl) (by kernel_rfl) (fun _ _ _ h => h) (by rfl) (by assumption) ?_
                    go_frame
                    refine wpAnyH_skipD (some 72) (i := 20) rfl rfl (by kernel_rfl) (by kernel_rfl) (by kernel_rfl) (fun _ _ _ h => h) (by rfl) (by assumption) ?_
                    go_frame
                    refine wpAnyH_takeD (some 73) (i := 21) (v := ?vh6_21) rfl rfl (by kernel_rfl) (by kernel_rfl) (by kernel_rfl) (fun _ _ _ h => h) (by rfl) ?hh6_21 (by assumption) ?_
                    case hh6_21 => (intro wq hSw; (try dsimp only at hSw); go_simp; (try (with_reducible rfl)))
                    go_frame
                    refine wpAnyH_done (by kernel_rfl) ?_ _
                    refine NoPanic.normal ?_
                    go_wp2_with fail
                    go_roundw
                    case rel => exact ⟨k + 1, m2, by go_num, rfl, by omega, HM2.out.congr fun s' => by rw [compI_next (get_vs HS.out) (get_vs HY.out) HV.out HSn.out]; exact ⟨.inl, fun h => h.elim id fun h => absurd (decide_eq_true h.2.1) (by rw [← HCb.out]; simp)⟩, hbw4⟩
                    case measure => simp [intOf]; omega
                  | true =>
                    have hcf : ConfP s.vote y.vote := of_decide_eq_true HCb.out.symm
                    obtain ⟨r2, hr2⟩ : ∃ r2, r2 = verS key y.vote y.sig := ⟨_, rfl⟩
                    have hV2 : Hid (∀ V, Below w.heap.size w V → Calls Try.prog 54 #[key.val, y.val] V (BoolPost V r2)) := fun V hV => by rw [hr2]; exact HVer.out y V hym.out hV
                    have HV2 : Hid (verK keys y.vote y.sig = r2) := (hvk.out y (by rw [← hcf.2.1.2.2.2.2]; exact HSn.out)).trans hr2.symm
                    clear hr2
                    cases r2 with
                    | false =>
                      refine wp_region_noPanic ?_
                      refine wp_region_held_drew (S := fun w' => rowAt w' b (o + i * 23) 22 = some s.vote.cells ∧ rowAt w' b (o + k * 23) 22 = some y.vote.cells ∧ rowAt w' bK (oK + sn * 8) 8 = some key.cells ∧ rowAt w' b (o + k * 23) 23 = some y.cells) (by kernel_rfl) (HRows2.out _ hbw.drew) (fun hHeld => ?_)
                      refine wpAnyH_takeD (some 52) (i := 0) (v := ?vh7_0) rfl rfl (by kernel_rfl) (by kernel_rfl) (by kernel_rfl) (fun _ _ _ h => h) (by rfl) ?hh7_0 (by assumption) ?_
                      case hh7_0 => (intro wq hSw; (try dsimp only at hSw); go_simp; (try (with_reducible rfl)))
                      go_frame
                      refine wpAnyH_takeD (some 53) (i := 1) (v := ?vh7_1) rfl rfl (by kernel_rfl) (by kernel_rfl) (by kernel_rfl) (fun _ _ _ h => h) (by rfl) ?hh7_1 (by assumption) ?_
                      case hh7_1 => (intro wq hSw; (try dsimp only at hSw); go_simp; (try (with_reducible rfl)))
                      go_frame
                      refine wpAnyH_takeD (some 54) (i := 2) (v := ?vh7_2) rfl rfl (by kernel_rfl) (by kernel_rfl) (by kernel_rfl) (fun _ _ _ h => h) (by rfl) ?hh7_2 (by assumption) ?_
                      case hh7_2 => (intro wq hSw; (try dsimp only at hSw); go_simp; (try (with_reducible rfl)))
                      go_frame
                      refine wpAnyH_takeD (some 55) (i := 3) (v := ?vh7_3) rfl rfl (by kernel_rfl) (by kernel_rfl) (by kernel_rfl) (fun _ _ _ h => h) (by rfl) ?hh7_3 (by assumption) ?_
                      case hh7_3 => (intro wq hSw; (try dsimp only at hSw); go_simp; (try (with_reducible rfl)))
                      go_frame
                      refine wpAnyH_takeD (some 56) (i := 4) (v := ?vh7_4) rfl rfl (by kernel_rfl) (by kernel_rfl) (by kernel_rfl) (fun _ _ _ h => h) (by rfl) ?hh7_4 (by assumption) ?_
                      case hh7_4 => (intro wq hSw; (try dsimp only at hSw); go_simp; (try (with_reducible rfl)))
                      go_frame
                      refine wpAnyH_takeD (some 57) (i := 5) (v := ?vh7_5) rfl rfl (by kernel_rfl) (by kernel_rfl) (by kernel_rfl) (fun _ _ _ h => h) (by rfl) ?hh7_5 (by assumption) ?_
                      case hh7_5 => (intro wq hSw; (try dsimp only at hSw); go_simp; (try (with_reducible rfl)))
                      go_frame
                      refine wpAnyH_takeD (some 58) (i := 6) (v := ?vh7_6) rfl rfl (by kernel_rfl) (by kernel_rfl) (by kernel_rfl) (fun _ _ _ h => h) (by rfl) ?hh7_6 (by assumption) ?_
                      case hh7_6 => (intro wq hSw; (try dsimp only at hSw); go_simp; (try (with_reducible rfl)))
                      go_frame
                      refine wpAnyH_takeD (some 59) (i := 7) (v := ?vh7_7) rfl rfl (by kernel_rfl) (by kernel_rfl) (by kernel_rfl) (fun _ _ _ h => h) (by rfl) ?hh7_7 (by assumption) ?_
                      case hh7_7 => (intro wq hSw; (try dsimp only at hSw); go_simp; (try (with_reducible rfl)))
                      go_frame
                      refine wpAnyH_takeD (some 60) (i := 8) (v := ?vh7_8) rfl rfl (by kernel_rfl) (by kernel_rfl) (by kernel_rfl) (fun _ _ _ h => h) (by rfl) ?hh7_8 (by assumption) ?_
                      case hh7_8 => (intro wq hSw; (try dsimp only at hSw); go_simp; (try (with_reducible rfl)))
                      go_frame
                      refine wpAnyH_takeD (some 61) (i := 9) (v := ?vh7_9) rfl rfl (by kernel_rfl) (by kernel_rfl) (by kernel_rfl) (fun _ _ _ h => h) (by rfl) ?hh7_9 (by assumption) ?_
                      case hh7_9 => (intro wq hSw; (try dsimp only at hSw); go_simp; (try (with_reducible rfl)))
                      go_frame
                      refine wpAnyH_ready (rs := [10]) (by kernel_rfl) (by simp) ?_
                      refine AllReadyH.cons rfl (fun K hK => ?_) AllReadyH.nil
                      go_simp
                      refine (HCf.out _).mono ?_; rintro en w4 ⟨rfl, hb4⟩; have hbw4 := hbw.drew.trans (hb4.mono hbw.size)
                      go_wp2_with fail
                      refine hK.out _ _ (HRows2.out _ hbw4) (fun hHeld => ?_)
                      clear hK K
                      try go_frame
                      refine wpAnyH_takeD (some 63) (i := 11) (v := ?vh7_11) rfl rfl (by kernel_rfl) (by kernel_rfl) (by kernel_rfl) (fun _ _ _ h => h) (by rfl) ?hh7_11 (by assumption) ?_
                      case hh7_11 => (intro wq hSw; (try dsimp only at hSw); go_simp; (try (with_reducible rfl)))
                      go_frame
                      refine wpAnyH_takeD (some 64) (i := 12) (v := ?vh7_12) rfl rfl (by kernel_rfl) (by kernel_rfl) (by kernel_rfl) (fun _ _ _ h => h) (by rfl) ?hh7_12 (by assumption) ?_
                      case hh7_12 => (intro wq hSw; (try dsimp only at hSw); go_simp; (try (with_reducible rfl)))
                      go_frame
                      refine wpAnyH_takeD (some 65) (i := 13) (v := ?vh7_13) rfl rfl (by kernel_rfl) (by kernel_rfl) (by kernel_rfl) (fun _ _ _ h => h) (by rfl) ?hh7_13 (by assumption) ?_
                      case hh7_13 => (intro wq hSw; (try dsimp only at hSw); go_simp; (try (with_reducible rfl)))
                      go_frame
                      refine wpAnyH_takeD (some 66) (i := 14) (v := ?vh7_14) rfl rfl (by kernel_rfl) (by kernel_rfl) (by kernel_rfl) (fun _ _ _ h => h) (by rfl) ?hh7_14 (by assumption) ?_
                      case hh7_14 => (intro wq hSw; (try dsimp only at hSw); go_simp; (try (with_reducible rfl)))
                      go_frame
                      refine wpAnyH_takeD (some 67) (i := 15) (v := ?vh7_15) rfl rfl (by kernel_rfl) (by kernel_rfl) (by kernel_rfl) (fun _ _ _ h => h) (by rfl) ?hh7_15 (by assumption) ?_
                      case hh7_15 => (intro wq hSw; (try dsimp only at hSw); go_simp; (try (with_reducible rfl)))
                      go_frame
                      refine wpAnyH_takeD (some 68) (i := 16) (v := ?vh7_16) rfl rfl (by kernel_rfl) (by kernel_rfl) (by kernel_rfl) (fun _ _ _ h => h) (by rfl) ?hh7_16 (by assumption) ?_
                      case hh7_16 => (intro wq hSw; (try dsimp only at hSw); go_simp; (try (with_reducible rfl)))
                      go_frame
                      refine wpAnyH_takeD (some 69) (i := 17) (v := ?vh7_17) rfl rfl (by kernel_rfl) (by kernel_rfl) (by kernel_rfl) (fun _ _ _ h => h) (by rfl) ?hh7_17 (by assumption) ?_
                      case hh7_17 => (intro wq hSw; (try dsimp only at hSw); go_simp; (try (with_reducible rfl)))
                      go_frame
                      refine wpAnyH_takeD (some 70) (i := 18) (v := ?vh7_18) rfl rfl (by kernel_rfl) (by kernel_rfl) (by kernel_rfl) (fun _ _ _ h => h) (by rfl) ?hh7_18 (by assumption) ?_
                      case hh7_18 => (intro wq hSw; (try dsimp only at hSw); go_simp; (try (with_reducible rfl)))
                      go_frame
                      refine wpAnyH_takeD (some 71) (i := 19) (v := ?vh7_19) rfl rfl (by kernel_rfl) (by kernel_rfl) (by kernel_rfl) (fun _ _ _ h => h) (by rfl) ?hh7_19 (by assumption) ?_
                      case hh7_19 => (intro wq hSw; (try dsimp only at hSw); go_simp; (try (with_reducible rfl)))
                      go_frame
                      refine wpAnyH_ready (rs := [20]) (by kernel_rfl) (by simp) ?_
                      refine AllReadyH.cons rfl (fun K hK => ?_) AllReadyH.nil
                      go_simp
                      refine (hV2.out _ hbw4).mono ?_; rintro en w5 ⟨rfl, hb5⟩; have hbw5 := hbw4.trans (hb5.mono hbw4.size)
                      go_wp2_with fail
                      refine hK.out _ _ (HRows2.out _ hbw5) (fun hHeld => ?_)
                      clear hK K
                      try go_frame
                      refine wpAnyH_takeD (some 73) (i := 21) (v := ?vh7_21) rfl rfl (by kernel_rfl) (by kernel_rfl) (by kernel_rfl) (fun _ _ _ h => h) (by rfl) ?hh7_21 (by assumption) ?_
                      case hh7_21 => (intro wq hSw; (try dsimp only at hSw); go_simp; (try (with_reducible rfl)))
                      go_frame
                      refine wpAnyH_done (by kernel_rfl) ?_ _
                      refine NoPanic.normal ?_
                      go_wp2_with fail
                      go_roundw
                      case rel => exact ⟨k + 1, m2, by go_num, rfl, by omega, HM2.out.congr fun s' => by rw [compI_next (get_vs HS.out) (get_vs HY.out) HV.out HSn.out]; exact ⟨.inl, fun h => h.elim id fun h => absurd h.2.2 (by rw [HV2.out]; simp)⟩, hbw5⟩
                      case measure => simp [intOf]; omega
                    | true =>
                      refine wp_region_noPanic ?_
                      refine wp_region_held_drew (S := fun w' => rowAt w' b (o + i * 23) 22 = some s.vote.cells ∧ rowAt w' b (o + k * 23) 22 = some y.vote.cells ∧ rowAt w' bK (oK + sn * 8) 8 = some key.cells ∧ rowAt w' b (o + k * 23) 23 = some y.cells) (by kernel_rfl) (HRows2.out _ hbw.drew) (fun hHeld => ?_)
                      refine wpAnyH_takeD (some 52) (i := 0) (v := ?vh8_0) rfl rfl (by kernel_rfl) (by kernel_rfl) (by kernel_rfl) (fun _ _ _ h => h) (by rfl) ?hh8_0 (by assumption) ?_
                      case hh8_0 => (intro wq hSw; (try dsimp only at hSw); go_simp; (try (with_reducible rfl)))
                      go_frame
                      refine wpAnyH_takeD (some 53) (i := 1) (v := ?vh8_1) rfl rfl (by kernel_rfl) (by kernel_rfl) (by kernel_rfl) (fun _ _ _ h => h) (by rfl) ?hh8_1 (by assumption) ?_
                      case hh8_1 => (intro wq hSw; (try dsimp only at hSw); go_simp; (try (with_reducible rfl)))
                      go_frame
                      refine wpAnyH_takeD (some 54) (i := 2) (v := ?vh8_2) rfl rfl (by kernel_rfl) (by kernel_rfl) (by kernel_rfl) (fun _ _ _ h => h) (by rfl) ?hh8_2 (by assumption) ?_
                      case hh8_2 => (intro wq hSw; (try dsimp only at hSw); go_simp; (try (with_reducible rfl)))
                      go_frame
                      refine wpAnyH_takeD (some 55) (i := 3) (v := ?vh8_3) rfl rfl (by kernel_rfl) (by kernel_rfl) (by kernel_rfl) (fun _ _ _ h => h) (by rfl) ?hh8_3 (by assumption) ?_
                      case hh8_3 => (intro wq hSw; (try dsimp only at hSw); go_simp; (try (with_reducible rfl)))
                      go_frame
                      refine wpAnyH_takeD (some 56) (i := 4) (v := ?vh8_4) rfl rfl (by kernel_rfl) (by kernel_rfl) (by kernel_rfl) (fun _ _ _ h => h) (by rfl) ?hh8_4 (by assumption) ?_
                      case hh8_4 => (intro wq hSw; (try dsimp only at hSw); go_simp; (try (with_reducible rfl)))
                      go_frame
                      refine wpAnyH_takeD (some 57) (i := 5) (v := ?vh8_5) rfl rfl (by kernel_rfl) (by kernel_rfl) (by kernel_rfl) (fun _ _ _ h => h) (by rfl) ?hh8_5 (by assumption) ?_
                      case hh8_5 => (intro wq hSw; (try dsimp only at hSw); go_simp; (try (with_reducible rfl)))
                      go_frame
                      refine wpAnyH_takeD (some 58) (i := 6) (v := ?vh8_6) rfl rfl (by kernel_rfl) (by kernel_rfl) (by kernel_rfl) (fun _ _ _ h => h) (by rfl) ?hh8_6 (by assumption) ?_
                      case hh8_6 => (intro wq hSw; (try dsimp only at hSw); go_simp; (try (with_reducible rfl)))
                      go_frame
                      refine wpAnyH_takeD (some 59) (i := 7) (v := ?vh8_7) rfl rfl (by kernel_rfl) (by kernel_rfl) (by kernel_rfl) (fun _ _ _ h => h) (by rfl) ?hh8_7 (by assumption) ?_
                      case hh8_7 => (intro wq hSw; (try dsimp only at hSw); go_simp; (try (with_reducible rfl)))
                      go_frame
                      refine wpAnyH_takeD (some 60) (i := 8) (v := ?vh8_8) rfl rfl (by kernel_rfl) (by kernel_rfl) (by kernel_rfl) (fun _ _ _ h => h) (by rfl) ?hh8_8 (by assumption) ?_
                      case hh8_8 => (intro wq hSw; (try dsimp only at hSw); go_simp; (try (with_reducible rfl)))
                      go_frame
                      refine wpAnyH_takeD (some 61) (i := 9) (v := ?vh8_9) rfl rfl (by kernel_rfl) (by kernel_rfl) (by kernel_rfl) (fun _ _ _ h => h) (by rfl) ?hh8_9 (by assumption) ?_
                      case hh8_9 => (intro wq hSw; (try dsimp only at hSw); go_simp; (try (with_reducible rfl)))
                      go_frame
                      refine wpAnyH_ready (rs := [10]) (by kernel_rfl) (by simp) ?_
                      refine AllReadyH.cons rfl (fun K hK => ?_) AllReadyH.nil
                      go_simp
                      refine (HCf.out _).mono ?_; rintro en w4 ⟨rfl, hb4⟩; have hbw4 := hbw.drew.trans (hb4.mono hbw.size)
                      go_wp2_with fail
                      refine hK.out _ _ (HRows2.out _ hbw4) (fun hHeld => ?_)
                      clear hK K
                      try go_frame
                      refine wpAnyH_takeD (some 63) (i := 11) (v := ?vh8_11) rfl rfl (by kernel_rfl) (by kernel_rfl) (by kernel_rfl) (fun _ _ _ h => h) (by rfl) ?hh8_11 (by assumption) ?_
                      case hh8_11 => (intro wq hSw; (try dsimp only at hSw); go_simp; (try (with_reducible rfl)))
                      go_frame
                      refine wpAnyH_takeD (some 64) (i := 12) (v := ?vh8_12) rfl rfl (by kernel_rfl) (by kernel_rfl) (by kernel_rfl) (fun _ _ _ h => h) (by rfl) ?hh8_12 (by assumption) ?_
                      case hh8_12 => (intro wq hSw; (try dsimp only at hSw); go_simp; (try (with_reducible rfl)))
                      go_frame
                      refine wpAnyH_takeD (some 65) (i := 13) (v := ?vh8_13) rfl rfl (by kernel_rfl) (by kernel_rfl) (by kernel_rfl) (fun _ _ _ h => h) (by rfl) ?hh8_13 (by assumption) ?_
                      case hh8_13 => (intro wq hSw; (try dsimp only at hSw); go_simp; (try (with_reducible rfl)))
                      go_frame
                      refine wpAnyH_takeD (some 66) (i := 14) (v := ?vh8_14) rfl rfl (by kernel_rfl) (by kernel_rfl) (by kernel_rfl) (fun _ _ _ h => h) (by rfl) ?hh8_14 (by assumption) ?_
                      case hh8_14 => (intro wq hSw; (try dsimp only at hSw); go_simp; (try (with_reducible rfl)))
                      go_frame
                      refine wpAnyH_takeD (some 67) (i := 15) (v := ?vh8_15) rfl rfl (by kernel_rfl) (by kernel_rfl) (by kernel_rfl) (fun _ _ _ h => h) (by rfl) ?hh8_15 (by assumption) ?_
                      case hh8_15 => (intro wq hSw; (try dsimp only at hSw); go_simp; (try (with_reducible rfl)))
                      go_frame
                      refine wpAnyH_takeD (some 68) (i := 16) (v := ?vh8_16) rfl rfl (by kernel_rfl) (by kernel_rfl) (by kernel_rfl) (fun _ _ _ h => h) (by rfl) ?hh8_16 (by assumption) ?_
                      case hh8_16 => (intro wq hSw; (try dsimp only at hSw); go_simp; (try (with_reducible rfl)))
                      go_frame
                      refine wpAnyH_takeD (some 69) (i := 17) (v := ?vh8_17) rfl rfl (by kernel_rfl) (by kernel_rfl) (by kernel_rfl) (fun _ _ _ h => h) (by rfl) ?hh8_17 (by assumption) ?_
                      case hh8_17 => (intro wq hSw; (try dsimp only at hSw); go_simp; (try (with_reducible rfl)))
                      go_frame
                      refine wpAnyH_takeD (some 70) (i := 18) (v := ?vh8_18) rfl rfl (by kernel_rfl) (by kernel_rfl) (by kernel_rfl) (fun _ _ _ h => h) (by rfl) ?hh8_18 (by assumption) ?_
                      case hh8_18 => (intro wq hSw; (try dsimp only at hSw); go_simp; (try (with_reducible rfl)))
                      go_frame
                      refine wpAnyH_takeD (some 71) (i := 19) (v := ?vh8_19) rfl rfl (by kernel_rfl) (by kernel_rfl) (by kernel_rfl) (fun _ _ _ h => h) (by rfl) ?hh8_19 (by assumption) ?_
                      case hh8_19 => (intro wq hSw; (try dsimp only at hSw); go_simp; (try (with_reducible rfl)))
                      go_frame
                      refine wpAnyH_ready (rs := [20]) (by kernel_rfl) (by simp) ?_
                      refine AllReadyH.cons rfl (fun K hK => ?_) AllReadyH.nil
                      go_simp
                      refine (hV2.out _ hbw4).mono ?_; rintro en w5 ⟨rfl, hb5⟩; have hbw5 := hbw4.trans (hb5.mono hbw4.size)
                      go_wp2_with fail
                      refine hK.out _ _ (HRows2.out _ hbw5) (fun hHeld => ?_)
                      clear hK K
                      try go_frame
                      refine wpAnyH_takeD (some 73) (i := 21) (v := ?vh8_21) rfl rfl (by kernel_rfl) (by kernel_rfl) (by kernel_rfl) (fun _ _ _ h => h) (by rfl) ?hh8_21 (by assumption) ?_
                      case hh8_21 => (intro wq hSw; (try dsimp only at hSw); go_simp; (try (with_reducible rfl)))
                      go_frame
                      refine wpAnyH_done (by kernel_rfl) ?_ _
                      refine NoPanic.normal ?_
                      have hsh := fun W => shl_one sn (by omega) W
                      go_wp2_with fail
                      go_roundw
                      case rel =>
                        exact ⟨k + 1, m2 ||| 2 ^ sn, by go_num, or_pow m2 sn HM2.out.1 (by omega), by omega, (HM2.out.or (by omega)).congr fun s' => by
                          rw [compI_next (get_vs HS.out) (get_vs HY.out) HV.out HSn.out]
                          exact ⟨fun h => h.elim .inl (fun h => .inr ⟨h, hcf, HV2.out⟩), fun h => h.elim .inl (fun h => .inr h.1)⟩, hbw5⟩
                      case measure => simp [intOf]; omega
                · obtain rfl : i = k := by omega
                  have dk : decide ((i : Int) < (i : Int)) = false := by simp
                  go_wp2
                  go_roundw
                  case rel => exact ⟨i + 1, m2, by go_num, rfl, by rw [HN.out]; omega, HM2.out.congr fun s' => (compB_next s').symm, hbw⟩
                  case measure => simp [intOf]; omega
    · obtain rfl : n' = i := by omega
      have hg : gltF keys (l.map Sg.vs) = m := (gltF_mask keys (l.map Sg.vs)).unique (HM.out.congr fun s => by rw [← compB_all, List.length_map, HN.out])
      rw [hg] at HG
      go_wp2_with (first
        | (go_at_call 50; refine (HG.out _ hbw).mono ?_; rintro en w3 ⟨rfl, hb3⟩)
        | (go_at_call 53; refine (HAw.out _).mono ?_; rintro en w4 ⟨rfl, hb4⟩))
      go_ret
      exact ⟨rfl, (hbw.trans (hb3.mono hbw.size)).trans (hb4.mono (Nat.le_trans hbw.size hb3.size))⟩

theorem lcompl_any (K A : Option Addr) (ck c : Nat) (keys : List Nm) (l : List Sg) (w : World) (hK : Rd w w.heap.size K (keys.flatMap nmc)) (hr : Rd w w.heap.size A (l.flatMap sgc)) (hok : SgsOk w w.heap.size l) (hc : l.length ≤ c) :
    Calls Try.prog 13 #[.slice K keys.length ck, .slice A l.length c] w fun e w' => e = .returned (.bool true) ∧ Below w.heap.size w w' :=
  lcompl_core K A keys.length ck l.length (min l.length 60) c keys (l.take 60) w rfl (by rw [List.length_take]; omega) hK (hr.sgTake 60) (hok.sub (fun s hs => List.mem_of_mem_take hs)) (by omega) (cut9_list hr hc)
end Go.Proofs.Ythmecidpjlaonaa
namespace Go.Proofs.Ythmecidpjlaonaa.evidenceComplete
open Go.ChangeShapes Go.WideShapes Go.ChangeAt Go.RowKit

theorem own : ownKnob Try.prog.godebug = none := by kernel_rfl
theorem laidOut : laidOutB Try.prog = true := by kernel_rfl

set_option maxRecDepth 100000 in
set_option maxHeartbeats 1000000 in
theorem lifted (os : Os) (started : os.Started) (H : Type) (enc : TypeId × Value → H) :
    ReturnsInHanded {} Try.checked os 13 .any (Rows.evidenceCompleteSpec.pre6 enc Try.prog Try.f13 Rows.evidenceCompleteRow.domain false) (Rows.evidenceCompleteSpec.post enc Try.prog Try.f13 false true false false) := by
  refine returnsInHanded_of_change_sized (C := Try.checked) own started (by kernel_rfl) Try.func13
    (ChangeSpec.witness6 (enc := enc) (C := Try.checked) false ⟨#[], #[.slice none 0 0, .slice none 0 0], []⟩ 8 (by kernel_rfl) (by kernel_rfl) (by kernel_rfl) (by kernel_rfl)) ?_
  intro W base args ds gs before hval0 hW hcnd hsz0 _
  have hval : ∀ (j : Nat) t v, Try.f13.params[j]? = some t → args[j]? = some v → Value.okWide Try.prog W .any base t v := hval0
  have hW' := hW
  obtain ⟨p, q, hA0, hV, rfl, hfz, hnd⟩ := hW
  have hA : DataW.TrodAll enc Try.prog W 0 (fun _ => true) true Try.f13.params.toList args.toList ds p := hA0
  have hsz : (DataW.weightsEach Try.prog (Try.f13.params.toList ++ Rows.evidenceCompleteSpec.plain.varTypes Try.prog) (ds ++ gs)).all (· ≤ reachBytes) = true := hsz0
  rw [Try.params13] at hA hval hsz
  obtain ⟨v0, vs0, d0, ds0, p0, q0, hargs, rfl, rfl, h0, r0⟩ := trodAll_cons hA
  obtain ⟨v1, vs1, d1, ds1, p1, q1, ha1, rfl, rfl, h1, r1⟩ := trodAll_cons r0
  subst ha1
  obtain ⟨rfl, rfl, rfl⟩ := trodAll_nil r1
  obtain rfl : args = #[v0, v1] := by cases args; simp_all
  obtain ⟨rfl, rfl⟩ := trodVars_none hV
  have hwt : ∀ k ∈ DataW.weightsEach Try.prog ([28, 29] ++ Rows.evidenceCompleteSpec.plain.varTypes Try.prog) ([d0, d1] ++ []), k ≤ reachBytes := fun k hk => by simpa using List.all_eq_true.1 hsz k hk
  have k0 := h0
  have lt0 : ∀ x ∈ p0, x.block < W.heap.size := by obtain ⟨m, hm⟩ := k0; exact DataW.trod_lt m _ _ _ hm
  obtain ⟨A0, l0, cap0, hv0, hr0, _, hl0, hm0, _⟩ : ∃ (A : Option Addr) (l : List Nm) (cap : Nat), v0.cells.toList = [.slice A l.length cap] ∧ Rd W W.heap.size A (l.flatMap nmc) ∧ (∀ a ∈ l, True) ∧ l.length ≤ cap ∧ cap ≤ maxLen ∧ l.length * Try.prog.bytesOf 39 ≤ reachBytes := by
    obtain ⟨fuel, hf⟩ := h0
    exact open_list nmc 8 (fun _ => True) Try.underlying28 cells39 (by omega) (fun n cs x h _ => by obtain ⟨nm, e⟩ := open_name h; exact ⟨nm, e, trivial⟩) (fun _ => rfl) hf (mem_weightsEach hwt (j := 0) (t := 28) rfl rfl)
  obtain ⟨a0, len0, c0, rfl⟩ := okWide_slice Try.underlying28 (hval 0 28 v0 rfl rfl)
  simp [Value.cells] at hv0
  obtain ⟨rfl, rfl, rfl⟩ := hv0
  have k1 := h1
  have lt1 : ∀ x ∈ p1, x.block < W.heap.size := by obtain ⟨m, hm⟩ := k1; exact DataW.trod_lt m _ _ _ hm
  obtain ⟨A1, l1, cap1, hv1, hr1, hok1, hl1, hm1, _⟩ : ∃ (A : Option Addr) (l : List Sg) (cap : Nat), v1.cells.toList = [.slice A l.length cap] ∧ Rd W W.heap.size A (l.flatMap sgc) ∧ (∀ a ∈ l, SgOk W W.heap.size a ∧ SgCap a) ∧ l.length ≤ cap ∧ cap ≤ maxLen ∧ l.length * Try.prog.bytesOf 43 ≤ reachBytes := by
    obtain ⟨fuel, hf⟩ := h1
    exact open_list sgc 23 (fun a => SgOk W W.heap.size a ∧ SgCap a) Try.underlying29 cells43 (by omega) (fun n cs x h hw => open_signed2 h hw) (fun e => by simp [sgc, Sg.size_cells]) hf (mem_weightsEach hwt (j := 1) (t := 29) rfl rfl)
  obtain ⟨a1, len1, c1, rfl⟩ := okWide_slice Try.underlying29 (hval 1 29 v1 rfl rfl)
  simp [Value.cells] at hv1
  obtain ⟨rfl, rfl, rfl⟩ := hv1
  clear hA0 hval0
  refine (lcompl_any a0 a1 c0 c1 l0 l1 W hr0 hr1 hok1 hl1).mono fun e W' ⟨he, bel⟩ => ?_
  subst he
  exact ⟨_, rfl, _, _, _, [], _, [], hW', trodAll_mk1 (shut_bool Try.underlying4 _), (trodAll_cons_mk (Below.trod laidOut (by kernel_rfl) (of_decide_eq_true (by kernel_rfl)) k0 bel lt0) (trodAll_cons_mk (Below.trod laidOut (by kernel_rfl) (of_decide_eq_true (by kernel_rfl)) k1 bel lt1) trodAll_mk0)), rfl, bel.frame _, fun h => by cases h⟩

theorem over : Rows.evidenceCompleteRow.holds Try.pinned (OpenSpec.ofChange Rows.evidenceCompleteSpec) :=
  OpenClaim.holds_of_wide 13 Try.f13 rfl rfl rfl rfl rfl rfl rfl ⟨rfl, rfl, rfl, rfl, rfl⟩ rfl rfl rfl rfl rfl (by kernel_rfl) Try.func13 closed
    (of_decide_eq_true (by kernel_rfl)) (by unfold Func.isWrapper; first | (rw [if_pos (by decide +kernel)]; kernel_rfl) | (rw [if_neg (by decide +kernel)]; exact ⟨rfl, rfl⟩))
    (fun os started H enc _ => lifted os started H enc)

theorem proved : Rows.EvidenceCompleteSaid := over
end Go.Proofs.Ythmecidpjlaonaa.evidenceComplete
