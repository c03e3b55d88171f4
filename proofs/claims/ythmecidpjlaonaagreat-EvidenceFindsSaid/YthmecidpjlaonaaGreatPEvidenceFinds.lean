/-
  The closed facts of the row of evidenceFinds, one by one. No condition.
  The reference's Bit and Signers return the set of one number, and of the signers of a list of pairs (maskS). Condition: the numbers are from 0 to 9; the pairs lie in memory below the call.
  The law EvidenceFinds returns true and changes nothing that was there. Condition: its arguments lie in memory below the call.
  The statement EvidenceFinds holds: Verified, Find and Guilty are as documented for any keys and any list. No condition.
-/
import Derived.Test.YthmecidpjlaonaaGreatFactA
import Derived.Test.YthmecidpjlaonaaGreatFactB
import Derived.Test.YthmecidpjlaonaaGreatFactC
import Derived.Test.YthmecidpjlaonaaGreatFactD
import Derived.Test.YthmecidpjlaonaaGreatGPFind
import Derived.Test.YthmecidpjlaonaaGreatGPairs9
import Derived.Test.YthmecidpjlaonaaGreatGOpen2
import Derived.ShutString
import Derived.ChangeOld
namespace Go.Proofs.YthmecidpjlaonaaGreat.evidenceFinds
theorem j1 : (Rows.evidenceFindsRow.wf (OpenSpec.ofChange Rows.evidenceFindsSpec)) = true := by kernel_rfl
theorem j2 : (laidOutB Tryz.prog) = true := fact2
theorem j3 : (mapsRowed Tryz.prog) = true := fact3
theorem j4 : (Tryz.f3.params.all (Tryz.prog.readableRec ·)) = true := by kernel_rfl
theorem j5 : (namedTie Tryz.prog Rows.evidenceFindsRow.named Rows.evidenceFindsSpec.vars) = true := by kernel_rfl
theorem j6 : ((Rows.evidenceFindsRow.stops == [])) = true := by kernel_rfl
theorem j7 : ((Tryz.prog.stops == [])) = true := by kernel_rfl
theorem j8 : ((Rows.evidenceFindsRow.knobs == [])) = true := by kernel_rfl
theorem j9 : ((Tryz.prog.stopKnobs == [])) = true := by kernel_rfl
theorem j10 : ((Rows.evidenceFindsRow.inPlace == Tryz.prog.inPlace 3)) = true := by kernel_rfl
theorem j11 : ((Rows.evidenceFindsRow.unfollowed == Tryz.prog.unfollowed 3)) = true := by kernel_rfl
theorem j12 : ((Rows.evidenceFindsRow.recurses == Tryz.prog.recurses 3)) = true := by kernel_rfl
theorem j13 : ((Rows.evidenceFindsRow.named == Tryz.prog.varsNamed 3)) = true := by kernel_rfl
theorem j14 : ((Rows.evidenceFindsRow.maps == (Tryz.f3.params.toList ++ Rows.evidenceFindsSpec.plain.varTypes Tryz.prog).any (Tryz.prog.mapsRec ·))) = true := by kernel_rfl
theorem j15 : ((Rows.evidenceFindsRow.ifaces == (Tryz.f3.params.toList ++ Rows.evidenceFindsSpec.plain.varTypes Tryz.prog).any (Tryz.prog.ifacesRec ·))) = true := by kernel_rfl
theorem j16 : ((Rows.evidenceFindsRow.mapsOut == Tryz.prog.mapsAmong Tryz.f3.resultTypes.toList)) = true := by kernel_rfl
theorem j17 : ((Rows.evidenceFindsRow.loops == (Tryz.f3.params.toList ++ Rows.evidenceFindsSpec.plain.varTypes Tryz.prog).any (Tryz.prog.loopsFrom ·))) = true := by kernel_rfl
theorem j18 : ((Rows.evidenceFindsRow.wideKeys == (Tryz.f3.params.toList ++ Rows.evidenceFindsSpec.plain.varTypes Tryz.prog ++ Tryz.f3.resultTypes.toList).any (Tryz.prog.wideKeysFrom ·))) = true := by kernel_rfl
theorem j19 : (Rows.evidenceFindsSpec.vars.all (Tryz.prog.varReadable ·)) = true := by kernel_rfl
theorem j20 : (Tryz.f3.resultTypes.all (fun t => Tryz.prog.readableRec t && decide (t < Tryz.prog.types.size))) = true := by kernel_rfl
theorem j21 : ((Rows.evidenceFindsRow.ifacesOut == Tryz.f3.resultTypes.toList.any (Tryz.prog.ifacesRec ·))) = true := by kernel_rfl
theorem j22 : ((Rows.evidenceFindsRow.loopsOut == Tryz.f3.resultTypes.toList.any (Tryz.prog.loopsFrom ·))) = true := by kernel_rfl
theorem j23 : ((Rows.evidenceFindsRow.plainKeys == Tryz.prog.plainKeys)) = true := by kernel_rfl
theorem j24 : (Rows.evidenceFindsRow.shortTexts.isNone) = true := by kernel_rfl
theorem j25 : (Tryz.prog.stopsHeard) = true := fact25
theorem j26 : (Tryz.prog.mayEnter) = true := fact26
theorem j27 : ((Rows.evidenceFindsRow.lifted == Tryz.prog.liftsFinal)) = true := fact27
theorem j28 : ((Tryz.prog.make == some Rows.evidenceFindsRow.make)) = true := fact28
theorem j29 : ((Rows.evidenceFindsRow.kinds == (if Rows.evidenceFindsRow.domain.isEmpty then [] else Tryz.f3.params.toList.map fun t => match Tryz.prog.underlying t with | some (.int k) => some k | _ => none))) = true := by kernel_rfl
theorem j30 : ((Rows.evidenceFindsRow.pinned == Rows.evidenceFindsRow.pinnedBy)) = true := by kernel_rfl
theorem j31 : ((Rows.evidenceFindsRow.veiled == (Tryz.f3.params.toList ++ Rows.evidenceFindsSpec.plain.varTypes Tryz.prog ++ Tryz.f3.resultTypes.toList).any (Tryz.prog.veiledRec ·))) = true := by kernel_rfl
theorem j32 : (Rows.evidenceFindsRow.veiledFits Tryz.prog Tryz.f3.params.toList (Tryz.f3.params.toList ++ Rows.evidenceFindsSpec.plain.varTypes Tryz.prog ++ Tryz.f3.resultTypes.toList)) = true := by kernel_rfl
set_option maxRecDepth 100000 in
theorem closed : joinedFacts Tryz.prog 3 Tryz.f3 Rows.evidenceFindsSpec Rows.evidenceFindsRow = true := by
  unfold joinedFacts
  exact and_t (and_t (and_t (and_t (and_t (and_t (and_t (and_t (and_t (and_t (and_t (and_t (and_t (and_t (and_t (and_t (and_t (and_t (and_t (and_t (and_t (and_t (and_t (and_t (and_t (and_t (and_t (and_t (and_t (and_t (and_t (j1) j2) j3) j4) j5) j6) j7) j8) j9) j10) j11) j12) j13) j14) j15) j16) j17) j18) j19) j20) j21) j22) j23) j24) j25) j26) j27) j28) j29) j30) j31) j32
end Go.Proofs.YthmecidpjlaonaaGreat.evidenceFinds
namespace Go.Proofs.YthmecidpjlaonaaGreat
open Go.RowKit
attribute [local go_sem ↓] Go.wp_at_zero Go.wp_at_succ loadNm loadVt loadSg loadEv
attribute [local go_sem] runNm runVt runSg runEv pickRow_some rowAt_drew rowAt_drewN

theorem shl_oneU (s : Nat) (hs : s ≤ 9) (w : World) : (Op.shift .shl .i64 1 .u64 (s : Int)).run Tryz.prog w = .ok (.int .i64 ((2 ^ s : Nat) : Int)) w := by
  rcases (by omega : s = 0 ∨ s = 1 ∨ s = 2 ∨ s = 3 ∨ s = 4 ∨ s = 5 ∨ s = 6 ∨ s = 7 ∨ s = 8 ∨ s = 9) with rfl | rfl | rfl | rfl | rfl | rfl | rfl | rfl | rfl | rfl <;> kernel_rfl
set_option maxRecDepth 100000 in
set_option maxHeartbeats 1000000 in
theorem rbit_any (s : Nat) (hs : s ≤ 9) (w : World) : Calls Tryz.prog 49 #[.int .i64 (s : Int)] w fun e w' => e = .returned (.int .i64 ((2 ^ s : Nat) : Int)) ∧ w' = w := by
  rcases (by omega : s = 0 ∨ s = 1 ∨ s = 2 ∨ s = 3 ∨ s = 4 ∨ s = 5 ∨ s = 6 ∨ s = 7 ∨ s = 8 ∨ s = 9) with rfl | rfl | rfl | rfl | rfl | rfl | rfl | rfl | rfl | rfl
  all_goals
    go_enter Tryz.func49, Tryz.ntmps49
    go_wp2
    go_ret
    exact ⟨rfl, rfl⟩
theorem evSigner {w : World} {B' b o : Nat} {l : List Ev} {k : Nat} {e : Ev} (h : Rd w B' (some ⟨b, o, none⟩) (l.flatMap evc)) (hk : l[k]? = some e) : w.cell? ⟨b, o + k * 46 + 4, none⟩ = some (.int .i64 e.a.vote.signer) := by
  have h1 := (rowAt_back (h.evRow hk)).2 4 (.int .i64 e.a.vote.signer) (by have := e.cell_signer; rw [Array.getElem?_toList]; exact this)
  exact h1
theorem IntPost.mono2 {w w1 w2 : World} {n : Int} {e : Ending} (hb : Below w.heap.size w w1) (h : IntPost w1 n e w2) : IntPost w n e w2 := ⟨h.1, hb.trans (h.2.mono hb.size)⟩

def SgnRel (E : List Ev) (w : World) (mv iv : Value) (wr : World) : Prop :=
  ∃ i : Nat, iv = .int .i64 (i : Int) ∧ i ≤ E.length ∧ mv = .int .i64 ((maskS ((E.take i).map Ev.vs) : Nat) : Int) ∧ wr = w
set_option maxRecDepth 100000 in
set_option maxHeartbeats 4000000 in
theorem rsigners_any (A : Option Addr) (n c : Nat) (E : List Ev) (w : World) (hn : E.length = n) (hr : Rd w w.heap.size A (E.flatMap evc)) (hs : ∀ e ∈ E, ∃ s : Nat, s ≤ 9 ∧ e.a.vote.signer = (s : Int)) (hsmall : n ≤ 1000000) :
    Calls Tryz.prog 16 #[.slice A n c] w fun e w' => e = .returned (.int .i64 ((maskS (E.map Ev.vs) : Nat) : Int)) ∧ w' = w := by
  have HN := Lib.hid hn
  have HR := Lib.hid hr
  have HS := Lib.hid hs
  clear hn hr hs
  go_enter Tryz.func16, Tryz.ntmps16
  go_wp2
  go_loopw [3, 4] (fun mv iv wr => SgnRel E w mv iv wr) (fun _ iv _ => n - (intOf iv).toNat)
  case atStart => exact ⟨0, rfl, Nat.zero_le _, rfl, rfl⟩
  case round =>
    obtain ⟨i, rfl, hin, rfl, hww⟩ := hrel
    replace hww := hww.symm
    subst hww
    rw [HN.out] at hin
    obtain ⟨m, hm⟩ : ∃ m, m = maskS ((E.take i).map Ev.vs) := ⟨_, rfl⟩
    rw [← hm]
    have HM := Lib.hid hm
    have hml : m < 1024 := by
      rw [hm]
      refine maskS_lt fun e he => ?_
      obtain ⟨x, hx, rfl⟩ := List.mem_map.1 he
      obtain ⟨s, h1, h2⟩ := HS.out x (List.mem_of_mem_take hx)
      show x.a.vote.signer.toNat < 10
      omega
    clear hm
    by_cases hi : i < n
    · have di : decide ((i : Int) < (n : Int)) = true := by simp; omega
      obtain ⟨x, hx⟩ : ∃ x, E[i]? = some x := ⟨_, List.getElem?_eq_getElem (by rw [HN.out]; exact hi)⟩
      obtain ⟨b, o, rfl, hb, hcell⟩ := HR.out.cells (by intro e; have := evc_length E; rw [e, HN.out] at this; simp at this; omega)
      clear hcell
      obtain ⟨sn, hsn9, hsn⟩ := HS.out x (List.mem_of_getElem? hx)
      have c4 := evSigner HR.out hx
      rw [hsn] at c4
      have HSn := Lib.hid hsn
      have HX := Lib.hid hx
      have HB := Lib.hid (rbit_any sn hsn9)
      have i1 : (0 : Int) ≤ (i : Int) := by omega
      have i2 : (i : Int) < (n : Int) := by omega
      obtain ⟨t, ht⟩ : ∃ t, t = 2 ^ sn := ⟨_, rfl⟩
      have htl : t < 1024 := by rw [ht]; exact Nat.pow_lt_pow_right (n := 10) (by omega) (by omega)
      have hor : bits .or .i64 (m : Int) (t : Int) = ((m ||| t : Nat) : Int) := i64_or m t (by omega) (by omega)
      rw [← ht] at HB
      have HTt := Lib.hid ht
      clear hx hsn ht
      go_wp2_with (go_at_call 49; refine (HB.out _).mono ?_; rintro en w2 ⟨rfl, hw2⟩; replace hw2 := hw2.symm; subst hw2)
      go_roundw
      case rel =>
        refine ⟨i + 1, by go_num, by rw [HN.out]; omega, ?_, rfl⟩
        have e1 : maskS ((E.take (i + 1)).map Ev.vs) = m ||| t := by
          rw [List.take_add_one, HX.out, List.map_append, maskS_append, ← HM.out]
          show m ||| (2 ^ x.a.vote.signer.toNat ||| 0) = _
          rw [HSn.out, Int.toNat_natCast, Nat.or_zero, HTt.out]
        rw [e1]
      case measure => simp [intOf]; omega
    · obtain rfl : n = i := by omega
      have di : decide ((n : Int) < (n : Int)) = false := by simp
      go_wp2
      go_ret
      exact ⟨by rw [HM.out, List.take_of_length_le (by rw [HN.out]; exact Nat.le_refl _)]; rfl, rfl⟩
end Go.Proofs.YthmecidpjlaonaaGreat
namespace Go.Proofs.YthmecidpjlaonaaGreat
open Go.RowKit
attribute [local go_sem ↓] Go.wp_at_zero Go.wp_at_succ loadNm loadVt loadSg loadEv
attribute [local go_sem] runNm runVt runSg runEv pickRow_some rowAt_drew rowAt_drewN

theorem same_vs9 {E F : List Sg} (h : E.map Sg.vs = F.map Sg.vs) {i : Nat} {e g : Sg} (he : E[i]? = some e) (hg : F[i]? = some g) : e.vs = g.vs := by
  have := congrArg (fun l => l[i]?) h
  simp only [List.getElem?_map, he, hg, Option.map_some, Option.some.injEq] at this
  exact this
set_option maxRecDepth 100000 in
theorem fcut9_any (A : Option Addr) (n c : Nat) (w : World) (hA : 60 < n → A ≠ none) (hc : n ≤ c) : Calls Tryz.prog 8 #[.slice A n c] w fun e w' => e = .returned (.slice A (min n 60) c) ∧ w' = w := by
  by_cases h : 60 < n
  · have d : decide ((60 : Int) < (n : Int)) = true := by simp; omega
    have e : min n 60 = 60 := by omega
    have k : (60 : Int) ≤ (c : Int) := by omega
    rw [e]
    clear e
    rcases A with _ | ⟨b, o, p⟩
    · exact absurd rfl (hA h)
    · go_enter Tryz.func8, Tryz.ntmps8
      go_wp2
      go_ret
      exact ⟨rfl, rfl⟩
  · have d : decide ((60 : Int) < (n : Int)) = false := by simp; omega
    have e : min n 60 = n := by omega
    rw [e]
    clear e
    go_enter Tryz.func8, Tryz.ntmps8
    go_wp2
    go_ret
    exact ⟨rfl, rfl⟩
/-- A canonical list in new memory. -/
def CanL (w : World) (C : List VS) (v : Value) (L : List Sg) (w' : World) : Prop :=
  ∃ A c, v = .slice A L.length c ∧ Below w.heap.size w w' ∧ Rd w' w'.heap.size A (L.flatMap sgc) ∧ SgsOk w' w'.heap.size L ∧ L.map Sg.vs = C ∧ L.length ≤ c ∧ c ≤ maxLen
theorem CanPost.nice {w : World} {l : List VS} {e : Ending} {w' : World} (h : CanPost w l e w') : ∃ v L, e = .returned v ∧ CanL w (canF l) v L w' := by
  obtain ⟨L, v, rfl, hb, hown, hk, he⟩ := h
  obtain ⟨A, c, rfl, h1, h2, h3, h4⟩ := own_slice hown rfl hk
  exact ⟨_, L, rfl, A, c, rfl, hb, h1, h4, he, h2, h3⟩
theorem FoundPost.nice9 {w : World} {c : List ES} {e : Ending} {w' : World} (h : FoundPost w c e w') : ∃ (E : List Ev) (A : Option Addr) (k : Nat), e = .returned (.slice A E.length k) ∧ Below w.heap.size w w' ∧ Rd w' w'.heap.size A (E.flatMap evc) ∧ EvsCap w' E ∧ E.map Ev.vs = c := by
  obtain ⟨E, v, rfl, hb, hown, hk, he⟩ := h
  obtain ⟨A, k, rfl, hr, _, _⟩ := own_evs hown rfl
  exact ⟨E, A, k, rfl, hb, hr, hk, he⟩
theorem findF_cap {w : World} {L : List Sg} (h : SgsOk w w.heap.size L) : EvsCap w (findF L 10) := fun _ hx => ⟨h _ (findF_mem hx).1, h _ (findF_mem hx).2⟩
theorem findF_sgn {L : List Sg} : ∀ e ∈ findF L 10, ∃ s : Nat, s ≤ 9 ∧ e.a.vote.signer = (s : Int) := fun e he => by
  have h1 : e.vs ∈ findS (L.map Sg.vs) 10 := by rw [findS_map]; exact List.mem_map_of_mem he
  obtain ⟨s, h2, h3⟩ := findS_mem.1 h1
  exact ⟨s, by omega, (firstS_some h3).2.2.1⟩
theorem findF_le (L : List Sg) : (findF L 10).length ≤ 10 := by
  have := List.length_filterMap_le (fun s => firstC s L) (List.range 10)
  rw [List.length_range] at this
  exact this

set_option maxRecDepth 100000 in
set_option maxHeartbeats 8000000 in
theorem lfinds_core (K A : Option Addr) (nk ck n n' c : Nat) (keys : List Nm) (l : List Sg) (w : World) (hnk : keys.length = nk) (hn : l.length = n') (hK : Rd w w.heap.size K (keys.flatMap nmc)) (hr : Rd w w.heap.size A (l.flatMap sgc))
    (hok : SgsOk w w.heap.size l) (hsmall : n' ≤ 60) (hcut : ∀ W, Calls Tryz.prog 8 #[.slice A n c] W fun e w' => e = .returned (.slice A n' c) ∧ w' = W) :
    Calls Tryz.prog 3 #[.slice K nk ck, .slice A n c] w fun e w' => e = .returned (.bool true) ∧ Below w.heap.size w w' := by
  have HCut := Lib.hid hcut
  have HAw := Lib.hid awake9_any
  obtain ⟨C, hC⟩ : ∃ C, C = cvS keys (l.map Sg.vs) := ⟨_, rfl⟩
  have hCe : canF ((vfd keys l).map Sg.vs) = C := by rw [hC, vfd_vs]; rfl
  have HV1 : Hid (∀ V, Below w.heap.size w V → Calls Tryz.prog 9 #[.slice K nk ck, .slice A n' c] V (fun e w' => ∃ v L, e = .returned v ∧ CanL V C v L w')) := fun V hV => by
    rw [← hCe]
    exact (pvfd_any K A nk ck n' c keys l V hnk hn ((hK.below hV).more hV.size) ((hr.below hV).more hV.size) ((hok.below hV).more hV.size) (by omega)).mono fun e w' h => h.nice
  have HV2 : Hid (∀ V, Below w.heap.size w V → Calls Tryz.prog 10 #[.slice K nk ck, .slice A n' c] V (fun e w' => ∃ v L, e = .returned v ∧ CanL V C v L w')) := fun V hV => by
    rw [← hCe]
    exact (rvfd_any K A nk ck n' c keys l V hnk hn ((hK.below hV).more hV.size) ((hr.below hV).more hV.size) ((hok.below hV).more hV.size) (by omega)).mono fun e w' h => h.nice
  have HF1 : Hid (∀ V, Below w.heap.size w V → Calls Tryz.prog 13 #[.slice K nk ck, .slice A n' c] V (FoundPost V (findS C 10))) := fun V hV => by
    rw [hC]; exact pfind_any K A nk ck n' c keys l V hnk hn ((hK.below hV).more hV.size) ((hr.below hV).more hV.size) ((hok.below hV).more hV.size) (by omega)
  have HG1 : Hid (∀ V, Below w.heap.size w V → Calls Tryz.prog 15 #[.slice K nk ck, .slice A n' c] V (IntPost V ((maskS (findS C 10) : Nat) : Int))) := fun V hV => by
    rw [hC]; exact glt_any K A nk ck n' c keys l V hnk hn ((hK.below hV).more hV.size) ((hr.below hV).more hV.size) ((hok.below hV).more hV.size) (by omega)
  have hCl : C.length ≤ 60 := by
    rw [← hCe]
    have h1 := canF_len ((vfd keys l).map Sg.vs)
    have h2 := vfd_all_le keys l
    rw [List.length_map] at h1
    omega
  clear hcut hnk hn hK hr hok hC hCe
  have hb0 : Below w.heap.size w w := Below.refl _ _
  go_enter Tryz.func3, Tryz.ntmps3
  go_upto_region 3 with (first
    | (go_at_call 8; refine (HCut.out _).mono ?_; rintro en w2 ⟨rfl, hw2⟩; replace hw2 := hw2.symm; subst hw2; clear HCut)
    | (go_at_call 9; refine (HV1.out _ hb0).mono ?_; rintro en w3 ⟨v3, L1, rfl, A1, c1, rfl, hb3, hr1, hk1, he1, hc1, hm1⟩; clear HV1)
    | (go_at_call 10; refine (HV2.out _ hb3).mono ?_; rintro en w4 ⟨v4, L2, rfl, A2, c2, rfl, hb4, hr2, hk2, he2, hc2, hm2⟩))
  obtain ⟨n1, hn1⟩ : ∃ n, n = L1.length := ⟨_, rfl⟩
  have hn2 : L2.length = n1 := by
    have h1 := congrArg List.length (he1.trans he2.symm)
    rw [List.length_map, List.length_map] at h1
    omega
  have hn60 : n1 ≤ 60 := by
    have h1 := congrArg List.length he1
    rw [List.length_map] at h1
    omega
  rw [hn2, ← hn1]
  have HN1 : Hid (L1.length = n1) := hn1.symm
  have HN2 := Lib.hid hn2
  have hbw4 := hb3.trans (hb4.mono hb3.size)
  have HR1 := Lib.hid ((hr1.below hb4).more hb4.size)
  have HK1 := Lib.hid ((hk1.below hb4).more hb4.size)
  have HR2 := Lib.hid hr2
  have HK2 := Lib.hid hk2
  have HQ : Hid (L1.map Sg.vs = L2.map Sg.vs) := he1.trans he2.symm
  have HE2 := Lib.hid he2
  have HC2 : Hid (n1 ≤ c2 ∧ c2 ≤ maxLen) := ⟨by rw [← hn2]; exact hc2, hm2⟩
  clear hn1 hn2 hb3 hb4 hr1 hk1 he1 hc1 hm1 hr2 hk2 he2 hc2 hm2 HV2 hb0 hCl
  try go_frame
  go_wp2_with fail
  go_loopw [7] (fun iv wr => CntRel n1 w4 iv wr) (fun iv _ => n1 - (intOf iv).toNat)
  case atStart => exact ⟨0, rfl, Nat.zero_le _, Below.refl _ _⟩
  case round =>
    obtain ⟨i, rfl, hin, hbw⟩ := hrel
    by_cases hi : i < n1
    · have di : decide ((i : Int) < (n1 : Int)) = true := by simp; omega
      have i0 : (0 : Int) ≤ (i : Int) := by omega
      have i1 : (i : Int) < (n1 : Int) := by omega
      obtain ⟨e, he⟩ : ∃ e, L1[i]? = some e := ⟨_, List.getElem?_eq_getElem (by rw [HN1.out]; exact hi)⟩
      obtain ⟨g, hg⟩ : ∃ g, L2[i]? = some g := ⟨_, List.getElem?_eq_getElem (by rw [HN2.out]; exact hi)⟩
      have hs := same_vs9 HQ.out he hg
      obtain ⟨b, o, rfl, _, _⟩ := HR1.out.cells (by intro h0; have := flat_length sgc 23 L1 (sgc_len L1); rw [h0, HN1.out] at this; simp at this; omega)
      obtain ⟨b', o', rfl, _, _⟩ := HR2.out.cells (by intro h0; have := flat_length sgc 23 L2 (sgc_len L2); rw [h0, HN2.out] at this; simp at this; omega)
      have HRows : Hid (∀ V, Below w4.heap.size w4 V → rowAt V b (o + i * 23) 23 = some e.cells ∧ rowAt V b' (o' + i * 23) 23 = some g.cells) := fun V hV => ⟨(HR1.out.below hV).sgRow he, (HR2.out.below hV).sgRow hg⟩
      have HA : Hid (∀ V, Below w4.heap.size w4 V → Calls Tryz.prog 11 #[e.val, g.val] V (BoolPost V true)) := fun V hV => by
        have h := same9_any e g V (((HK1.out e (List.mem_of_getElem? he)).1.below hV).more hV.size) (((HK2.out g (List.mem_of_getElem? hg)).1.below hV).more hV.size)
        rwa [decide_eq_true hs] at h
      clear he hg hs
      go_upto_region 8 with fail
      refine wp_region_noPanic ?_
      refine wp_region_held_drew (S := fun w' => rowAt w' b (o + i * 23) 23 = some e.cells ∧ rowAt w' b' (o' + i * 23) 23 = some g.cells) (by kernel_rfl) (HRows.out _ hbw.drew) (fun hHeld => ?_)
      refine wpAnyH_takeD (some 27) (i := 0) (v := ?vh1_0) rfl rfl (by kernel_rfl) (by kernel_rfl) (by kernel_rfl) (fun _ _ _ h => h) (by rfl) ?hh1_0 (by assumption) ?_
      case hh1_0 => (intro wq hSw; (try dsimp only at hSw); go_simp; (try (with_reducible rfl)))
      go_frame
      refine wpAnyH_takeD (some 28) (i := 1) (v := ?vh1_1) rfl rfl (by kernel_rfl) (by kernel_rfl) (by kernel_rfl) (fun _ _ _ h => h) (by rfl) ?hh1_1 (by assumption) ?_
      case hh1_1 => (intro wq hSw; (try dsimp only at hSw); go_simp; (try (with_reducible rfl)))
      go_frame
      refine wpAnyH_takeD (some 29) (i := 2) (v := ?vh1_2) rfl rfl (by kernel_rfl) (by kernel_rfl) (by kernel_rfl) (fun _ _ _ h => h) (by rfl) ?hh1_2 (by assumption) ?_
      case hh1_2 => (intro wq hSw; (try dsimp only at hSw); go_simp; (try (with_reducible rfl)))
      go_frame
      refine wpAnyH_takeD (some 30) (i := 3) (v := ?vh1_3) rfl rfl (by kernel_rfl) (by kernel_rfl) (by kernel_rfl) (fun _ _ _ h => h) (by rfl) ?hh1_3 (by assumption) ?_
      case hh1_3 => (intro wq hSw; (try dsimp only at hSw); go_simp; (try (with_reducible rfl)))
      go_frame
      refine wpAnyH_takeD (some 31) (i := 4) (v := ?vh1_4) rfl rfl (by kernel_rfl) (by kernel_rfl) (by kernel_rfl) (fun _ _ _ h => h) (by rfl) ?hh1_4 (by assumption) ?_
      case hh1_4 => (intro wq hSw; (try dsimp only at hSw); go_simp; (try (with_reducible rfl)))
      go_frame
      refine wpAnyH_takeD (some 32) (i := 5) (v := ?vh1_5) rfl rfl (by kernel_rfl) (by kernel_rfl) (by kernel_rfl) (fun _ _ _ h => h) (by rfl) ?hh1_5 (by assumption) ?_
      case hh1_5 => (intro wq hSw; (try dsimp only at hSw); go_simp; (try (with_reducible rfl)))
      go_frame
      refine wpAnyH_takeD (some 33) (i := 6) (v := ?vh1_6) rfl rfl (by kernel_rfl) (by kernel_rfl) (by kernel_rfl) (fun _ _ _ h => h) (by rfl) ?hh1_6 (by assumption) ?_
      case hh1_6 => (intro wq hSw; (try dsimp only at hSw); go_simp; (try (with_reducible rfl)))
      go_frame
      refine wpAnyH_takeD (some 34) (i := 7) (v := ?vh1_7) rfl rfl (by kernel_rfl) (by kernel_rfl) (by kernel_rfl) (fun _ _ _ h => h) (by rfl) ?hh1_7 (by assumption) ?_
      case hh1_7 => (intro wq hSw; (try dsimp only at hSw); go_simp; (try (with_reducible rfl)))
      go_frame
      refine wpAnyH_ready (rs := [8]) (by kernel_rfl) (by simp) ?_
      refine AllReadyH.cons rfl (fun K hK => ?_) AllReadyH.nil
      go_simp
      refine (HA.out _ hbw.drew).mono ?_; rintro en w5 ⟨rfl, hb5⟩; have hbw2 := hbw.drew.trans (hb5.mono hbw.size)
      go_wp2_with fail
      refine hK.out _ _ (HRows.out _ hbw2) (fun hHeld => ?_)
      clear hK K
      try go_frame
      refine wpAnyH_takeD (some 36) (i := 9) (v := ?vh1_9) rfl rfl (by kernel_rfl) (by kernel_rfl) (by kernel_rfl) (fun _ _ _ h => h) (by rfl) ?hh1_9 (by assumption) ?_
      case hh1_9 => (intro wq hSw; (try dsimp only at hSw); go_simp; (try (with_reducible rfl)))
      go_frame
      refine wpAnyH_done (by kernel_rfl) ?_ _
      refine NoPanic.normal ?_
      go_wp2_with fail
      go_roundw
      case rel => exact ⟨i + 1, by go_num, by omega, hbw2⟩
      case measure => simp [intOf]; omega
    · have di : decide ((i : Int) < (n1 : Int)) = false := by simp; omega
      have hb5 := hbw4.trans (hbw.mono hbw4.size)
      have HFI : Hid (∀ V, Below w4.heap.size w4 V → Calls Tryz.prog 14 #[.slice A2 n1 c2] V (FindPost V L2)) := fun V hV => rfindin_any A2 n1 c2 L2 V HN2.out ((HR2.out.below hV).more hV.size) ((HK2.out.below hV).more hV.size) (by omega)
      have HEv : Hid ((findF L2 10).map Ev.vs = findS C 10) := by unfold Hid; rw [← findS_map, HE2.out]
      obtain ⟨E2, hE2⟩ : ∃ E, E = findF L2 10 := ⟨_, rfl⟩
      have HFI2 : Hid (∀ V, Below w4.heap.size w4 V → Calls Tryz.prog 14 #[.slice A2 n1 c2] V (fun e w' => ∃ B' k', e = .returned (.slice B' E2.length k') ∧ Below V.heap.size V w' ∧ Rd w' w'.heap.size B' (E2.flatMap evc))) := fun V hV => by
        refine (HFI.out V hV).mono ?_
        rintro e w' ⟨v, rfl, hb, hown⟩
        obtain ⟨B', k', rfl, h1, _, _⟩ := own_evs hown rfl
        rw [hE2]
        exact ⟨B', k', rfl, hb, h1⟩
      have hE10 : E2.length ≤ 10 := by rw [hE2]; exact findF_le L2
      have HCap : Hid (∀ V, Below w4.heap.size w4 V → EvsCap V E2) := fun V hV => by rw [hE2]; exact findF_cap ((HK2.out.below hV).more hV.size)
      have HSgn : Hid (∀ e ∈ E2, ∃ s : Nat, s ≤ 9 ∧ e.a.vote.signer = (s : Int)) := by rw [hE2]; exact findF_sgn
      rw [← hE2] at HEv
      obtain ⟨ne, hne⟩ : ∃ n, n = E2.length := ⟨_, rfl⟩
      rw [← hne] at HFI2 hE10
      have HNe : Hid (E2.length = ne) := hne.symm
      obtain ⟨ms, hms⟩ : ∃ m, m = maskS (findS C 10) := ⟨_, rfl⟩
      rw [← hms] at HG1
      have HSg : Hid (∀ B' k' V, Rd V V.heap.size B' (E2.flatMap evc) → Calls Tryz.prog 16 #[.slice B' ne k'] V fun e w' => e = .returned (.int .i64 (ms : Int)) ∧ w' = V) := fun B' k' V h => by
        have h1 := rsigners_any B' ne k' E2 V HNe.out h HSgn.out (by omega)
        rw [HEv.out, ← hms] at h1
        exact h1
      clear hE2 hne hms HFI HR1 HK1 HR2 HK2 HQ HE2 HN1 HN2 HC2 HSgn
      go_wp2_with (first
        | (go_at_call 13; refine (HF1.out _ hb5).mono ?_; rintro en w6 h6; obtain ⟨E1, B1, k1, rfl, hb6, hr6, hk6, he6⟩ := h6.nice9; have hb56 := hbw.trans (hb6.mono hbw.size); have hlen : E1.length = ne := (by have := congrArg List.length (he6.trans HEv.out.symm); rw [List.length_map, List.length_map] at this; rw [this]; exact HNe.out); clear h6 HF1; rw [hlen])
        | (go_at_call 14; refine (HFI2.out _ hb56).mono ?_; rintro en w7 ⟨B2, k2, rfl, hb7, hr7⟩; have hb57 := hb56.trans (hb7.mono hb56.size); have hP := Lib.hid (pairs9_eq B1 B2 k1 k2 ne E1 E2 w7 hlen HNe.out ((hr6.below hb7).more hb7.size) hr7 (hk6.below hb7) (HCap.out _ hb57) (he6.trans HEv.out.symm) (by omega)))
        | (go_at_call 12; refine hP.out.mono ?_; rintro en w8 ⟨rfl, hb8⟩; have hb58 := hb57.trans (hb8.mono hb57.size); have hbw8 := hbw4.trans (hb58.mono hbw4.size))
        | (go_at_call 15; refine (HG1.out _ hbw8).mono ?_; rintro en w9 ⟨rfl, hb9⟩; have hb59 := hb58.trans (hb9.mono hb58.size); clear HG1 hP)
        | (go_at_call 14; refine (HFI2.out _ hb59).mono ?_; rintro en w10 ⟨B3, k3, rfl, hb10, hr10⟩; have hb510 := hb59.trans (hb10.mono hb59.size))
        | (go_at_call 16; refine (HSg.out B3 k3 _ hr10).mono ?_; rintro en w11 ⟨rfl, hw11⟩; replace hw11 := hw11.symm; subst hw11)
        | (go_at_call 17; refine (HAw.out _).mono ?_; rintro en w12 ⟨rfl, hb12⟩))
      go_ret
      exact ⟨rfl, hbw4.trans ((hb510.trans (hb12.mono hb510.size)).mono hbw4.size)⟩

theorem lfinds_any (K A : Option Addr) (ck c : Nat) (keys : List Nm) (l : List Sg) (w : World) (hK : Rd w w.heap.size K (keys.flatMap nmc)) (hr : Rd w w.heap.size A (l.flatMap sgc)) (hok : SgsOk w w.heap.size l) (hc : l.length ≤ c) :
    Calls Tryz.prog 3 #[.slice K keys.length ck, .slice A l.length c] w fun e w' => e = .returned (.bool true) ∧ Below w.heap.size w w' :=
  lfinds_core K A keys.length ck l.length (min l.length 60) c keys (l.take 60) w rfl (by rw [List.length_take]; omega) hK (hr.sgTake 60) (hok.sub (fun s hs => List.mem_of_mem_take hs)) (by omega)
    (fun W => fcut9_any A l.length c W (fun h => by
      obtain ⟨b, o, rfl, _⟩ := hr.cells (by intro e; have := flat_length sgc 23 l (sgc_len l); rw [e] at this; simp at this; omega)
      simp) hc)
end Go.Proofs.YthmecidpjlaonaaGreat
namespace Go.Proofs.YthmecidpjlaonaaGreat.evidenceFinds
open Go.ChangeShapes Go.WideShapes Go.ChangeAt Go.RowKit

theorem own : ownKnob Tryz.prog.godebug = none := by kernel_rfl
theorem laidOut : laidOutB Tryz.prog = true := by kernel_rfl

set_option maxRecDepth 100000 in
set_option maxHeartbeats 1000000 in
theorem lifted (os : Os) (started : os.Started) (H : Type) (enc : TypeId × Value → H) :
    ReturnsInHanded {} Tryz.checked os 3 .any (Rows.evidenceFindsSpec.pre6 enc Tryz.prog Tryz.f3 Rows.evidenceFindsRow.domain false) (Rows.evidenceFindsSpec.post enc Tryz.prog Tryz.f3 false true false false) := by
  refine returnsInHanded_of_change_sized (C := Tryz.checked) own started (by kernel_rfl) Tryz.func3
    (ChangeSpec.witness6 (enc := enc) (C := Tryz.checked) false ⟨#[], #[.slice none 0 0, .slice none 0 0], []⟩ 8 (by kernel_rfl) (by kernel_rfl) (by kernel_rfl) (by kernel_rfl)) ?_
  intro W base args ds gs before hval0 hW hcnd hsz0 _
  have hval : ∀ (j : Nat) t v, Tryz.f3.params[j]? = some t → args[j]? = some v → Value.okWide Tryz.prog W .any base t v := hval0
  have hW' := hW
  obtain ⟨p, q, hA0, hV, rfl, hfz, hnd⟩ := hW
  have hA : DataW.TrodAll enc Tryz.prog W 0 (fun _ => true) true Tryz.f3.params.toList args.toList ds p := hA0
  have hsz : (DataW.weightsEach Tryz.prog (Tryz.f3.params.toList ++ Rows.evidenceFindsSpec.plain.varTypes Tryz.prog) (ds ++ gs)).all (· ≤ reachBytes) = true := hsz0
  rw [Tryz.params3] at hA hval hsz
  obtain ⟨v0, vs0, d0, ds0, p0, q0, hargs, rfl, rfl, h0, r0⟩ := trodAll_cons hA
  obtain ⟨v1, vs1, d1, ds1, p1, q1, ha1, rfl, rfl, h1, r1⟩ := trodAll_cons r0
  subst ha1
  obtain ⟨rfl, rfl, rfl⟩ := trodAll_nil r1
  obtain rfl : args = #[v0, v1] := by cases args; simp_all
  obtain ⟨rfl, rfl⟩ := trodVars_none hV
  have hwt : ∀ k ∈ DataW.weightsEach Tryz.prog ([22, 23] ++ Rows.evidenceFindsSpec.plain.varTypes Tryz.prog) ([d0, d1] ++ []), k ≤ reachBytes := fun k hk => by simpa using List.all_eq_true.1 hsz k hk
  have k0 := h0
  have lt0 : ∀ x ∈ p0, x.block < W.heap.size := by obtain ⟨m, hm⟩ := k0; exact DataW.trod_lt m _ _ _ hm
  obtain ⟨A0, l0, cap0, hv0, hr0, _, hl0, hm0, _⟩ : ∃ (A : Option Addr) (l : List Nm) (cap : Nat), v0.cells.toList = [.slice A l.length cap] ∧ Rd W W.heap.size A (l.flatMap nmc) ∧ (∀ a ∈ l, True) ∧ l.length ≤ cap ∧ cap ≤ maxLen ∧ l.length * Tryz.prog.bytesOf 29 ≤ reachBytes := by
    obtain ⟨fuel, hf⟩ := h0
    exact open_list nmc 8 (fun _ => True) Tryz.underlying22 cells39 (by omega) (fun n cs x h _ => by obtain ⟨nm, e⟩ := open_name h; exact ⟨nm, e, trivial⟩) (fun _ => rfl) hf (mem_weightsEach hwt (j := 0) (t := 22) rfl rfl)
  obtain ⟨a0, len0, c0, rfl⟩ := okWide_slice Tryz.underlying22 (hval 0 22 v0 rfl rfl)
  simp [Value.cells] at hv0
  obtain ⟨rfl, rfl, rfl⟩ := hv0
  have k1 := h1
  have lt1 : ∀ x ∈ p1, x.block < W.heap.size := by obtain ⟨m, hm⟩ := k1; exact DataW.trod_lt m _ _ _ hm
  obtain ⟨A1, l1, cap1, hv1, hr1, hok1, hl1, hm1, _⟩ : ∃ (A : Option Addr) (l : List Sg) (cap : Nat), v1.cells.toList = [.slice A l.length cap] ∧ Rd W W.heap.size A (l.flatMap sgc) ∧ (∀ a ∈ l, SgOk W W.heap.size a ∧ SgCap a) ∧ l.length ≤ cap ∧ cap ≤ maxLen ∧ l.length * Tryz.prog.bytesOf 34 ≤ reachBytes := by
    obtain ⟨fuel, hf⟩ := h1
    exact open_list sgc 23 (fun a => SgOk W W.heap.size a ∧ SgCap a) Tryz.underlying23 cells43 (by omega) (fun n cs x h hw => open_signed2 h hw) (fun e => by simp [sgc, Sg.size_cells]) hf (mem_weightsEach hwt (j := 1) (t := 23) rfl rfl)
  obtain ⟨a1, len1, c1, rfl⟩ := okWide_slice Tryz.underlying23 (hval 1 23 v1 rfl rfl)
  simp [Value.cells] at hv1
  obtain ⟨rfl, rfl, rfl⟩ := hv1
  clear hA0 hval0
  refine (lfinds_any a0 a1 c0 c1 l0 l1 W hr0 hr1 hok1 hl1).mono fun e W' ⟨he, bel⟩ => ?_
  subst he
  exact ⟨_, rfl, _, _, _, [], _, [], hW', trodAll_mk1 (shut_bool Tryz.underlying4 _), (trodAll_cons_mk (Below.trod laidOut (by kernel_rfl) (of_decide_eq_true (by kernel_rfl)) k0 bel lt0) (trodAll_cons_mk (Below.trod laidOut (by kernel_rfl) (of_decide_eq_true (by kernel_rfl)) k1 bel lt1) trodAll_mk0)), rfl, bel.frame _, fun h => by cases h⟩

theorem over : Rows.evidenceFindsRow.holds Tryz.pinned (OpenSpec.ofChange Rows.evidenceFindsSpec) :=
  OpenClaim.holds_of_wide 3 Tryz.f3 rfl rfl rfl rfl rfl rfl rfl ⟨rfl, rfl, rfl, rfl, rfl⟩ rfl rfl rfl rfl rfl (by kernel_rfl) Tryz.func3 closed
    (of_decide_eq_true (by kernel_rfl)) (by unfold Func.isWrapper; first | (rw [if_pos (by decide +kernel)]; kernel_rfl) | (rw [if_neg (by decide +kernel)]; exact ⟨rfl, rfl⟩))
    (fun os started H enc _ => lifted os started H enc)

theorem proved : Rows.EvidenceFindsSaid := over
end Go.Proofs.YthmecidpjlaonaaGreat.evidenceFinds
