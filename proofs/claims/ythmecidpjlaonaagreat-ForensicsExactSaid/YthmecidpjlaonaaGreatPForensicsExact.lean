/-
  The closed facts of the row of forensicsExact, one by one. No condition.
  The reference's Bit and Signers return the set of one number, and of the signers of a list of pairs (maskS). Condition: the numbers are from 0 to 9; the pairs lie in memory below the call.
  The law ForensicsExact returns true and changes nothing that was there. Condition: its arguments lie in memory below the call.
  The statement ForensicsExact holds: Union, Extract, Proof and Against are as documented for any keys and lists. No condition.
-/
import Derived.Test.YthmecidpjlaonaaGreatFactA
import Derived.Test.YthmecidpjlaonaaGreatFactB
import Derived.Test.YthmecidpjlaonaaGreatFactC
import Derived.Test.YthmecidpjlaonaaGreatFactD
import Derived.Test.YthmecidpjlaonaaGreatGPFind
import Derived.Test.YthmecidpjlaonaaGreatGAwk18
import Derived.Test.YthmecidpjlaonaaGreatGPairs9
import Derived.Test.YthmecidpjlaonaaGreatGSame18
import Derived.Test.YthmecidpjlaonaaGreatGFind
import Derived.Test.YthmecidpjlaonaaGreatGOpen2
import Derived.ShutString
import Derived.ChangeOld
namespace Go.Proofs.YthmecidpjlaonaaGreat.forensicsExact
theorem j1 : (Rows.forensicsExactRow.wf (OpenSpec.ofChange Rows.forensicsExactSpec)) = true := by kernel_rfl
theorem j2 : (laidOutB Tryz.prog) = true := fact2
theorem j3 : (mapsRowed Tryz.prog) = true := fact3
theorem j4 : (Tryz.f6.params.all (Tryz.prog.readableRec ·)) = true := by kernel_rfl
theorem j5 : (namedTie Tryz.prog Rows.forensicsExactRow.named Rows.forensicsExactSpec.vars) = true := by kernel_rfl
theorem j6 : ((Rows.forensicsExactRow.stops == [])) = true := by kernel_rfl
theorem j7 : ((Tryz.prog.stops == [])) = true := by kernel_rfl
theorem j8 : ((Rows.forensicsExactRow.knobs == [])) = true := by kernel_rfl
theorem j9 : ((Tryz.prog.stopKnobs == [])) = true := by kernel_rfl
theorem j10 : ((Rows.forensicsExactRow.inPlace == Tryz.prog.inPlace 6)) = true := by kernel_rfl
theorem j11 : ((Rows.forensicsExactRow.unfollowed == Tryz.prog.unfollowed 6)) = true := by kernel_rfl
theorem j12 : ((Rows.forensicsExactRow.recurses == Tryz.prog.recurses 6)) = true := by kernel_rfl
theorem j13 : ((Rows.forensicsExactRow.named == Tryz.prog.varsNamed 6)) = true := by kernel_rfl
theorem j14 : ((Rows.forensicsExactRow.maps == (Tryz.f6.params.toList ++ Rows.forensicsExactSpec.plain.varTypes Tryz.prog).any (Tryz.prog.mapsRec ·))) = true := by kernel_rfl
theorem j15 : ((Rows.forensicsExactRow.ifaces == (Tryz.f6.params.toList ++ Rows.forensicsExactSpec.plain.varTypes Tryz.prog).any (Tryz.prog.ifacesRec ·))) = true := by kernel_rfl
theorem j16 : ((Rows.forensicsExactRow.mapsOut == Tryz.prog.mapsAmong Tryz.f6.resultTypes.toList)) = true := by kernel_rfl
theorem j17 : ((Rows.forensicsExactRow.loops == (Tryz.f6.params.toList ++ Rows.forensicsExactSpec.plain.varTypes Tryz.prog).any (Tryz.prog.loopsFrom ·))) = true := by kernel_rfl
theorem j18 : ((Rows.forensicsExactRow.wideKeys == (Tryz.f6.params.toList ++ Rows.forensicsExactSpec.plain.varTypes Tryz.prog ++ Tryz.f6.resultTypes.toList).any (Tryz.prog.wideKeysFrom ·))) = true := by kernel_rfl
theorem j19 : (Rows.forensicsExactSpec.vars.all (Tryz.prog.varReadable ·)) = true := by kernel_rfl
theorem j20 : (Tryz.f6.resultTypes.all (fun t => Tryz.prog.readableRec t && decide (t < Tryz.prog.types.size))) = true := by kernel_rfl
theorem j21 : ((Rows.forensicsExactRow.ifacesOut == Tryz.f6.resultTypes.toList.any (Tryz.prog.ifacesRec ·))) = true := by kernel_rfl
theorem j22 : ((Rows.forensicsExactRow.loopsOut == Tryz.f6.resultTypes.toList.any (Tryz.prog.loopsFrom ·))) = true := by kernel_rfl
theorem j23 : ((Rows.forensicsExactRow.plainKeys == Tryz.prog.plainKeys)) = true := by kernel_rfl
theorem j24 : (Rows.forensicsExactRow.shortTexts.isNone) = true := by kernel_rfl
theorem j25 : (Tryz.prog.stopsHeard) = true := fact25
theorem j26 : (Tryz.prog.mayEnter) = true := fact26
theorem j27 : ((Rows.forensicsExactRow.lifted == Tryz.prog.liftsFinal)) = true := fact27
theorem j28 : ((Tryz.prog.make == some Rows.forensicsExactRow.make)) = true := fact28
theorem j29 : ((Rows.forensicsExactRow.kinds == (if Rows.forensicsExactRow.domain.isEmpty then [] else Tryz.f6.params.toList.map fun t => match Tryz.prog.underlying t with | some (.int k) => some k | _ => none))) = true := by kernel_rfl
theorem j30 : ((Rows.forensicsExactRow.pinned == Rows.forensicsExactRow.pinnedBy)) = true := by kernel_rfl
theorem j31 : ((Rows.forensicsExactRow.veiled == (Tryz.f6.params.toList ++ Rows.forensicsExactSpec.plain.varTypes Tryz.prog ++ Tryz.f6.resultTypes.toList).any (Tryz.prog.veiledRec ·))) = true := by kernel_rfl
theorem j32 : (Rows.forensicsExactRow.veiledFits Tryz.prog Tryz.f6.params.toList (Tryz.f6.params.toList ++ Rows.forensicsExactSpec.plain.varTypes Tryz.prog ++ Tryz.f6.resultTypes.toList)) = true := by kernel_rfl
set_option maxRecDepth 100000 in
theorem closed : joinedFacts Tryz.prog 6 Tryz.f6 Rows.forensicsExactSpec Rows.forensicsExactRow = true := by
  unfold joinedFacts
  exact and_t (and_t (and_t (and_t (and_t (and_t (and_t (and_t (and_t (and_t (and_t (and_t (and_t (and_t (and_t (and_t (and_t (and_t (and_t (and_t (and_t (and_t (and_t (and_t (and_t (and_t (and_t (and_t (and_t (and_t (and_t (j1) j2) j3) j4) j5) j6) j7) j8) j9) j10) j11) j12) j13) j14) j15) j16) j17) j18) j19) j20) j21) j22) j23) j24) j25) j26) j27) j28) j29) j30) j31) j32
end Go.Proofs.YthmecidpjlaonaaGreat.forensicsExact
namespace Go.Proofs.YthmecidpjlaonaaGreat
open Go.RowKit
attribute [local go_sem ↓] Go.wp_at_zero Go.wp_at_succ loadNm loadVt loadSg loadEv
attribute [local go_sem] runNm runVt runSg runEv pickRow_some rowAt_drew rowAt_drewN

theorem shl_oneU (s : Nat) (hs : s ≤ 9) (w : World) : (Op.shift .shl .i64 1 .u64 (s : Int)).run Tryz.prog w = .ok (.int .i64 ((2 ^ s : Nat) : Int)) w := by
  rcases (by omega : s = 0 ∨ s = 1 ∨ s = 2 ∨ s = 3 ∨ s = 4 ∨ s = 5 ∨ s = 6 ∨ s = 7 ∨ s = 8 ∨ s = 9) with rfl | rfl | rfl | rfl | rfl | rfl | rfl | rfl | rfl | rfl <;> kernel_rfl
set_option maxRecDepth 100000 in
set_option maxHeartbeats 1000000 in
theorem rbit_any (s : Nat) (hs : s ≤ 9) (w : World) : Calls Tryz.prog 49 #[.int .i64 (s : Int)] w fun e w' => e = .returned (.int .i64 ((2 ^ s : Nat) : Int)) ∧ w' = w := by
  rcases (by omega : s = 0 ∨ s = 1 ∨ s = 2 ∨ s = 3 ∨ s = 4 ∨ s = 5 ∨ s = 6 ∨ s = 7 ∨ s = 8 ∨ s = 9) with rfl | rfl | rfl | rfl | rfl | rfl | rfl | rfl | rfl | rfl
  all_goals
    go_enter Tryz.func49, Tryz.ntmps49
    go_wp2
    go_ret
    exact ⟨rfl, rfl⟩
theorem evSigner {w : World} {B' b o : Nat} {l : List Ev} {k : Nat} {e : Ev} (h : Rd w B' (some ⟨b, o, none⟩) (l.flatMap evc)) (hk : l[k]? = some e) : w.cell? ⟨b, o + k * 46 + 4, none⟩ = some (.int .i64 e.a.vote.signer) := by
  have h1 := (rowAt_back (h.evRow hk)).2 4 (.int .i64 e.a.vote.signer) (by have := e.cell_signer; rw [Array.getElem?_toList]; exact this)
  exact h1
theorem IntPost.mono2 {w w1 w2 : World} {n : Int} {e : Ending} (hb : Below w.heap.size w w1) (h : IntPost w1 n e w2) : IntPost w n e w2 := ⟨h.1, hb.trans (h.2.mono hb.size)⟩

def SgnRel (E : List Ev) (w : World) (mv iv : Value) (wr : World) : Prop :=
  ∃ i : Nat, iv = .int .i64 (i : Int) ∧ i ≤ E.length ∧ mv = .int .i64 ((maskS ((E.take i).map Ev.vs) : Nat) : Int) ∧ wr = w
set_option maxRecDepth 100000 in
set_option maxHeartbeats 4000000 in
theorem rsigners_any (A : Option Addr) (n c : Nat) (E : List Ev) (w : World) (hn : E.length = n) (hr : Rd w w.heap.size A (E.flatMap evc)) (hs : ∀ e ∈ E, ∃ s : Nat, s ≤ 9 ∧ e.a.vote.signer = (s : Int)) (hsmall : n ≤ 1000000) :
    Calls Tryz.prog 16 #[.slice A n c] w fun e w' => e = .returned (.int .i64 ((maskS (E.map Ev.vs) : Nat) : Int)) ∧ w' = w := by
  have HN := Lib.hid hn
  have HR := Lib.hid hr
  have HS := Lib.hid hs
  clear hn hr hs
  go_enter Tryz.func16, Tryz.ntmps16
  go_wp2
  go_loopw [3, 4] (fun mv iv wr => SgnRel E w mv iv wr) (fun _ iv _ => n - (intOf iv).toNat)
  case atStart => exact ⟨0, rfl, Nat.zero_le _, rfl, rfl⟩
  case round =>
    obtain ⟨i, rfl, hin, rfl, hww⟩ := hrel
    replace hww := hww.symm
    subst hww
    rw [HN.out] at hin
    obtain ⟨m, hm⟩ : ∃ m, m = maskS ((E.take i).map Ev.vs) := ⟨_, rfl⟩
    rw [← hm]
    have HM := Lib.hid hm
    have hml : m < 1024 := by
      rw [hm]
      refine maskS_lt fun e he => ?_
      obtain ⟨x, hx, rfl⟩ := List.mem_map.1 he
      obtain ⟨s, h1, h2⟩ := HS.out x (List.mem_of_mem_take hx)
      show x.a.vote.signer.toNat < 10
      omega
    clear hm
    by_cases hi : i < n
    · have di : decide ((i : Int) < (n : Int)) = true := by simp; omega
      obtain ⟨x, hx⟩ : ∃ x, E[i]? = some x := ⟨_, List.getElem?_eq_getElem (by rw [HN.out]; exact hi)⟩
      obtain ⟨b, o, rfl, hb, hcell⟩ := HR.out.cells (by intro e; have := evc_length E; rw [e, HN.out] at this; simp at this; omega)
      clear hcell
      obtain ⟨sn, hsn9, hsn⟩ := HS.out x (List.mem_of_getElem? hx)
      have c4 := evSigner HR.out hx
      rw [hsn] at c4
      have HSn := Lib.hid hsn
      have HX := Lib.hid hx
      have HB := Lib.hid (rbit_any sn hsn9)
      have i1 : (0 : Int) ≤ (i : Int) := by omega
      have i2 : (i : Int) < (n : Int) := by omega
      obtain ⟨t, ht⟩ : ∃ t, t = 2 ^ sn := ⟨_, rfl⟩
      have htl : t < 1024 := by rw [ht]; exact Nat.pow_lt_pow_right (n := 10) (by omega) (by omega)
      have hor : bits .or .i64 (m : Int) (t : Int) = ((m ||| t : Nat) : Int) := i64_or m t (by omega) (by omega)
      rw [← ht] at HB
      have HTt := Lib.hid ht
      clear hx hsn ht
      go_wp2_with (go_at_call 49; refine (HB.out _).mono ?_; rintro en w2 ⟨rfl, hw2⟩; replace hw2 := hw2.symm; subst hw2)
      go_roundw
      case rel =>
        refine ⟨i + 1, by go_num, by rw [HN.out]; omega, ?_, rfl⟩
        have e1 : maskS ((E.take (i + 1)).map Ev.vs) = m ||| t := by
          rw [List.take_add_one, HX.out, List.map_append, maskS_append, ← HM.out]
          show m ||| (2 ^ x.a.vote.signer.toNat ||| 0) = _
          rw [HSn.out, Int.toNat_natCast, Nat.or_zero, HTt.out]
        rw [e1]
      case measure => simp [intOf]; omega
    · obtain rfl : n = i := by omega
      have di : decide ((n : Int) < (n : Int)) = false := by simp
      go_wp2
      go_ret
      exact ⟨by rw [HM.out, List.take_of_length_le (by rw [HN.out]; exact Nat.le_refl _)]; rfl, rfl⟩
end Go.Proofs.YthmecidpjlaonaaGreat
namespace Go.Proofs.YthmecidpjlaonaaGreat
open Go.RowKit
attribute [local go_sem ↓] Go.wp_at_zero Go.wp_at_succ loadNm loadVt loadSg loadEv
attribute [local go_sem] runNm runVt runSg runEv pickRow_some rowAt_drew rowAt_drewN

theorem same_vs18 {E F : List Sg} (h : E.map Sg.vs = F.map Sg.vs) {i : Nat} {e g : Sg} (he : E[i]? = some e) (hg : F[i]? = some g) : e.vs = g.vs := by
  have := congrArg (fun l => l[i]?) h
  simp only [List.getElem?_map, he, hg, Option.map_some, Option.some.injEq] at this
  exact this
/-- A canonical list in new memory. -/
def CanN (w : World) (C : List VS) (e : Ending) (w' : World) : Prop :=
  ∃ L A c, e = .returned (.slice A C.length c) ∧ Below w.heap.size w w' ∧ Rd w' w'.heap.size A (L.flatMap sgc) ∧ SgsOk w' w'.heap.size L ∧ L.map Sg.vs = C
theorem CanPost.new18 {w : World} {l : List VS} {e : Ending} {w' : World} (h : CanPost w l e w') : CanN w (canF l) e w' := by
  obtain ⟨L, v, rfl, hb, hown, hk, he⟩ := h
  obtain ⟨A, c, rfl, h1, h2, h3, h4⟩ := own_slice hown rfl hk
  refine ⟨L, A, c, ?_, hb, h1, h4, he⟩
  rw [← he, List.length_map]
/-- A list of pairs in new memory. -/
def FndN (w : World) (F : List ES) (e : Ending) (w' : World) : Prop :=
  ∃ (E : List Ev) (A : Option Addr) (k : Nat), e = .returned (.slice A F.length k) ∧ Below w.heap.size w w' ∧ Rd w' w'.heap.size A (E.flatMap evc) ∧ EvsCap w' E ∧ E.map Ev.vs = F
theorem FoundPost.new18 {w : World} {c : List ES} {e : Ending} {w' : World} (h : FoundPost w c e w') : FndN w c e w' := by
  obtain ⟨E, v, rfl, hb, hown, hk, he⟩ := h
  obtain ⟨A, k, rfl, hr, _, _⟩ := own_evs hown rfl
  refine ⟨E, A, k, ?_, hb, hr, hk, he⟩
  rw [← he, List.length_map]
theorem FindsPost.new18 {w : World} {c : List VS} {e : Ending} {w' : World} (h : FindsPost w c e w') : FndN w (findS c 10) e w' := by
  obtain ⟨L, v, rfl, hb, hown, hk, he⟩ := h
  obtain ⟨A, k, rfl, hr, _, _⟩ := own_evs hown rfl
  have hm : (findF L 10).map Ev.vs = findS c 10 := by rw [← findS_map, he]
  refine ⟨findF L 10, A, k, ?_, hb, hr, fun _ hx => ⟨hk _ (findF_mem hx).1, hk _ (findF_mem hx).2⟩, hm⟩
  rw [← hm, List.length_map]
theorem sgn18 {c : List VS} {E : List Ev} (h : E.map Ev.vs = findS c 10) : ∀ e ∈ E, ∃ s : Nat, s ≤ 9 ∧ e.a.vote.signer = (s : Int) := fun e he => by
  have h1 : e.vs ∈ findS c 10 := by rw [← h]; exact List.mem_map_of_mem he
  obtain ⟨s, h2, h3⟩ := findS_mem.1 h1
  exact ⟨s, by omega, (firstS_some h3).2.2.1⟩
theorem PrfPost.new18 {w : World} {F : List ES} {e : Ending} {w' : World} (h : PrfPost w F e w') : ∃ A N c, e = .returned (.tuple #[.slice A N c, .bool (decide (F ≠ []))]) ∧
    (∀ V, Below w'.heap.size w' V → (convert 32 9 (.slice A N c)).run Tryz.prog V = .ok (.string ⟨(if F = [] then [] else pbS F).toArray⟩) V) ∧ Below w.heap.size w w' := by
  rcases h with ⟨h0, A, c, rfl, hown, hb⟩ | ⟨h0, rfl, hb⟩
  · refine ⟨A, _, c, by rw [decide_eq_true h0], fun V hV => ?_, hb⟩
    have hl : (pbS F).length = 1 + 786 * F.length := by have := hown.1; simpa using this
    rw [if_neg h0, ← hl]
    exact conv_str V _ A c (pbS F) ((Rd.of_own hown).below hV)
  · refine ⟨none, 0, 0, by rw [decide_eq_false (by simp [h0])], fun V _ => ?_, hb⟩
    rw [if_pos h0]
    exact conv_str V 0 none 0 [] Rd.nil

set_option maxRecDepth 100000 in
set_option maxHeartbeats 16000000 in
theorem lforen_core (K A A' : Option Addr) (nk ck n n' c m m' c' : Nat) (mem : Int) (keys : List Nm) (l l' : List Sg) (w : World) (hnk : keys.length = nk) (hn : l.length = n') (hm : l'.length = m') (hK : Rd w w.heap.size K (keys.flatMap nmc)) (hr : Rd w w.heap.size A (l.flatMap sgc)) (hr' : Rd w w.heap.size A' (l'.flatMap sgc))
    (hok : SgsOk w w.heap.size l) (hok' : SgsOk w w.heap.size l') (hsmall : n' ≤ 80) (hsmall' : m' ≤ 80) (hcut : ∀ W, Calls Tryz.prog 25 #[.slice A n c] W fun e w' => e = .returned (.slice A n' c) ∧ w' = W) (hcut' : ∀ W, Calls Tryz.prog 25 #[.slice A' m c'] W fun e w' => e = .returned (.slice A' m' c') ∧ w' = W) :
    Calls Tryz.prog 6 #[.slice K nk ck, .int .i64 mem, .slice A n c, .slice A' m c'] w fun e w' => e = .returned (.bool true) ∧ Below w.heap.size w w' := by
  have HCut := Lib.hid hcut
  have HCut' := Lib.hid hcut'
  have HN := Lib.hid hn
  have HM := Lib.hid hm
  have HR := Lib.hid hr
  have HR' := Lib.hid hr'
  have HAw := Lib.hid awake18_any
  have hokA : SgsOk w w.heap.size (l ++ l') := fun s hs => by rcases List.mem_append.1 hs with hs | hs; exact hok s hs; exact hok' s hs
  have HOkA := Lib.hid hokA
  obtain ⟨CC, hCC⟩ : ∃ C, C = canF ((l ++ l').map Sg.vs) := ⟨_, rfl⟩
  obtain ⟨cv, hcv⟩ : ∃ c, c = cvS keys ((l ++ l').map Sg.vs) := ⟨_, rfl⟩
  obtain ⟨FF, hFF⟩ : ∃ F, F = findS cv 10 := ⟨_, rfl⟩
  have hgl : gltF keys ((l ++ l').map Sg.vs) = maskS FF := by rw [hFF, hcv]; rfl
  have hml : maskS FF < 1024 := by
    rw [hFF]
    refine maskS_lt fun e he => ?_
    obtain ⟨s, h2, h3⟩ := findS_mem.1 he
    have := (firstS_some h3).2.2.1
    omega
  obtain ⟨x, hx, hmx⟩ := and_ex mem (maskS FF) hml
  have HU : Hid (∀ V, Below w.heap.size w V → Calls Tryz.prog 26 #[.slice A n' c, .slice A' m' c'] V (CanN V CC)) := fun V hV => by
    rw [hCC]
    exact (union_any A A' n' c m' c' l l' V hn hm ((hr.below hV).more hV.size) ((hr'.below hV).more hV.size) (by omega) ((hok.below hV).more hV.size) ((hok'.below hV).more hV.size)).mono fun e w' h => h.new18
  have HX : Hid (∀ V, Below w.heap.size w V → Calls Tryz.prog 29 #[.slice K nk ck, .slice A n' c, .slice A' m' c'] V (FndN V FF)) := fun V hV => by
    rw [hFF, hcv]
    exact (extract_any K A A' nk ck n' c m' c' keys l l' V hnk ((hK.below hV).more hV.size) hn hm ((hr.below hV).more hV.size) ((hr'.below hV).more hV.size) (by omega) ((hok.below hV).more hV.size) ((hok'.below hV).more hV.size)).mono fun e w' h => h.new18
  have HPf : Hid (∀ V, Below w.heap.size w V → Calls Tryz.prog 31 #[.slice K nk ck, .slice A n' c, .slice A' m' c'] V (PrfPost V FF)) := fun V hV => by
    rw [hFF, hcv]
    exact proof_any K A A' nk ck n' c m' c' keys l l' V hnk ((hK.below hV).more hV.size) hn hm ((hr.below hV).more hV.size) ((hr'.below hV).more hV.size) (by omega) ((hok.below hV).more hV.size) ((hok'.below hV).more hV.size)
  have HAg : Hid (∀ V, Below w.heap.size w V → Calls Tryz.prog 33 #[.slice K nk ck, .int .i64 mem, .slice A n' c, .slice A' m' c'] V (IntPost V ((popF x 10 : Nat) : Int))) := fun V hV =>
    against_any K A A' nk ck n' c m' c' mem x keys l l' V hnk ((hK.below hV).more hV.size) hn hm ((hr.below hV).more hV.size) ((hr'.below hV).more hV.size) (by omega) ((hok.below hV).more hV.size) ((hok'.below hV).more hV.size) hx (by rw [hgl]; exact hmx)
  have HRf : Hid (∀ (B : Option Addr) (kc : Nat) (V : World), Below w.heap.size w V → Rd V V.heap.size B ((l ++ l').flatMap sgc) → Calls Tryz.prog 30 #[.slice K nk ck, .slice B (n' + m') kc] V (FndN V FF)) := fun B kc V hV h1 => by
    rw [hFF, show cv = canF ((vfd keys (l ++ l')).map Sg.vs) from by rw [hcv, vfd_vs]; rfl]
    exact (rfind_any K B nk ck (n' + m') kc keys (l ++ l') V hnk (by rw [List.length_append, hn, hm]) ((hK.below hV).more hV.size) h1 ((hokA.below hV).more hV.size) (by omega)).mono fun e w' h => h.new18
  have HRc : Hid (∀ (B : Option Addr) (kc : Nat) (V : World), Below w.heap.size w V → Rd V V.heap.size B ((l ++ l').flatMap sgc) → n' + m' ≤ kc → kc ≤ maxLen → Calls Tryz.prog 27 #[.slice B (n' + m') kc] V (CanN V CC)) := fun B kc V hV h1 h2 h3 => by
    rw [hCC]
    exact (rcan_any (n' + m') B (n' + m') kc (l ++ l') V (Nat.le_refl _) (by rw [List.length_append, hn, hm]) h1 ((hokA.below hV).more hV.size) (by omega) h2 h3).mono fun e w' h => h.new18
  have hlF : FF.length ≤ 10 := by
    rw [hFF]
    have h2 := List.length_filterMap_le (fun s => firstS s cv) (List.range 10)
    rw [List.length_range] at h2
    unfold findS
    exact h2
  have HRb : Hid (∀ (B : Option Addr) (k : Nat) (E : List Ev) (V : World), Rd V V.heap.size B (E.flatMap evc) → EvsCap V E → E.map Ev.vs = FF → Calls Tryz.prog 32 #[.slice B FF.length k] V (PrfPost V FF)) := fun B k E V h1 h2 h3 => by
    have hl : FF.length = E.length := by rw [← h3, List.length_map]
    have h4 := rbuild_any B k E V h1 (fun x hx => ⟨(h2 x hx).1.1, (h2 x hx).2.1⟩) (by omega)
    rw [← hl] at h4
    have h5 : E.map Ev.vs = findS (cvS keys ((l ++ l').map Sg.vs)) 10 := by rw [h3, hFF, hcv]
    have h6 : findS (cvS keys ((l ++ l').map Sg.vs)) 10 = FF := by rw [hFF, hcv]
    refine h4.mono fun e w' h => ?_
    have := h.prf (keys := keys) (l := (l ++ l').map Sg.vs) h5
    rwa [h6] at this
  have HSn : Hid (∀ (B : Option Addr) (k : Nat) (E : List Ev) (V : World), Rd V V.heap.size B (E.flatMap evc) → E.map Ev.vs = FF → Calls Tryz.prog 16 #[.slice B FF.length k] V fun e w' => e = .returned (.int .i64 ((maskS FF : Nat) : Int)) ∧ w' = V) := fun B k E V h1 h3 => by
    have hl : E.length = FF.length := by rw [← h3, List.length_map]
    have h4 := rsigners_any B FF.length k E V hl h1 (sgn18 (c := cv) (by rw [h3, hFF])) (by omega)
    rwa [h3] at h4
  have HSz : Hid (∀ V, Calls Tryz.prog 34 #[.int .i64 (x : Int)] V (IntPost V ((popF x 10 : Nat) : Int))) := fun V => rsize_any x V hx
  have HCl : Hid (CC.length ≤ 160) := by
    unfold Hid
    rw [hCC]
    have h1 := canF_len ((l ++ l').map Sg.vs)
    rw [List.length_map, List.length_append] at h1
    omega
  obtain ⟨g, hg⟩ : ∃ g, g = maskS FF := ⟨_, rfl⟩
  rw [← hg] at HSn hmx
  obtain ⟨r, hrr⟩ : ∃ r, r = popF x 10 := ⟨_, rfl⟩
  rw [← hrr] at HSz HAg
  clear hcut hcut' hnk hn hm hK hr hr' hok hok' hokA hCC hcv hFF hgl hml hg hrr hx
  have hb0 : Below w.heap.size w w := Below.refl _ _
  go_enter Tryz.func6, Tryz.ntmps6
  go_upto_region 2 with (first
    | (go_at_call 25; refine (HCut.out _).mono ?_; rintro en w2 ⟨rfl, hw2⟩; replace hw2 := hw2.symm; subst hw2; clear HCut)
    | (go_at_call 25; refine (HCut'.out _).mono ?_; rintro en w2 ⟨rfl, hw2⟩; replace hw2 := hw2.symm; subst hw2))
  try go_frame
  have hmade : Hid ((w.alloc (.cells #[] 34)).ownsRow w.heap.size 34 23 (.slice (some ⟨w.heap.size, 0, none⟩) 0 0) 0 []) := World.ownsRow_made w #[] 0 (Nat.le_refl _) (by unfold maxLen; omega) rfl
  go_upto_region 3 with (first
    | (at_builtin; refine wpList_app rfl (.tmp 24) (.tmp 25) _ rfl w.heap.size 34 (.agg zeroSc) 23 88 Tryz.underlying23 info_signed rfl (by decide) (.slice (some ⟨w.heap.size, 0, none⟩) 0 0) 0 [] rfl hmade.out w.heap.size A n' c (l.flatMap sgc) rfl (by rw [flat_length sgc 23 l (sgc_len l), HN.out]) (HR.out.alloc (Nat.le_refl _) _) (fun u hu => by obtain ⟨s, _, hs⟩ := List.mem_flatMap.1 hu; exact s.one u hs) (by omega) (by unfold maxLen; omega) (by simp) ?_; intro v2 w2 hown2 hg2 hat2; rw [Nat.zero_add, List.nil_append] at hown2; have hbw2 : Below w.heap.size w w2 := below_own (hb0.alloc (Nat.le_refl _) _) hmade.out hg2; have HOwn2 := Lib.hid hown2; clear hown2 hg2 hat2)
    | (at_builtin; refine wpList_app rfl (.tmp 26) (.tmp 27) _ rfl w.heap.size 34 (.agg zeroSc) 23 88 Tryz.underlying23 info_signed rfl (by decide) v2 n' (l.flatMap sgc) rfl HOwn2.out w.heap.size A' m' c' (l'.flatMap sgc) rfl (by rw [flat_length sgc 23 l' (sgc_len l'), HM.out]) (HR'.out.below hbw2) (fun u hu => by obtain ⟨s, _, hs⟩ := List.mem_flatMap.1 hu; exact s.one u hs) (by omega) (by unfold maxLen; omega) hbw2.size ?_; intro v3 w3 hown3 hg3 hat3; rw [← List.flatMap_append] at hown3; have hbw3 : Below w.heap.size w w3 := below_own hbw2 HOwn2.out hg3; have HOwn3 := Lib.hid hown3; clear hown3 hg3 hat3))
  obtain ⟨B3, c3, hv3⟩ := own_form HOwn3.out
  subst hv3
  have HRA := Lib.hid (Rd.of_own HOwn3.out)
  have hc3 : n' + m' ≤ c3 ∧ c3 ≤ maxLen := by
    rcases HOwn3.out.2 with ⟨hv, h0⟩ | ⟨g, cap, cur, hv, _, _, h1, h2, _⟩
    · injection hv with _ _ hc; unfold maxLen; omega
    · injection hv with _ _ hc; omega
  have HC3 := Lib.hid hc3
  obtain ⟨nn, hnn⟩ : ∃ nn, nn = n' + m' := ⟨_, rfl⟩
  rw [← hnn] at HRf HRc HC3 ⊢
  clear HOwn2 hbw2 hc3 hmade HOwn3 hb0 hnn
  try go_frame
  go_upto_region 4 with (first
    | (go_at_call 26; refine (HU.out _ hbw3).mono ?_; rintro en w4 ⟨L1, A1, c1, rfl, hb4, hr1, hk1, he1⟩; have hbw4 := hbw3.trans (hb4.mono hbw3.size))
    | (go_at_call 27; refine (HRc.out B3 c3 _ hbw4 ((HRA.out.below hb4).more hb4.size) HC3.out.1 HC3.out.2).mono ?_; rintro en w5 ⟨L2, A2, c2, rfl, hb5, hr2, hk2, he2⟩))
  have hbw5 := hbw4.trans (hb5.mono hbw4.size)
  have hb35 := hb4.trans (hb5.mono hb4.size)
  obtain ⟨n1, hn1⟩ : ∃ n, n = CC.length := ⟨_, rfl⟩
  have hn60 : n1 ≤ 160 := by rw [hn1]; exact HCl.out
  have HN1 : Hid (L1.length = n1) := by unfold Hid; rw [hn1, ← he1, List.length_map]
  have HN2 : Hid (L2.length = n1) := by unfold Hid; rw [hn1, ← he2, List.length_map]
  rw [← hn1]
  have HR1 := Lib.hid ((hr1.below hb5).more hb5.size)
  have HK1 := Lib.hid ((hk1.below hb5).more hb5.size)
  have HR2 := Lib.hid hr2
  have HK2 := Lib.hid hk2
  have HQ : Hid (L1.map Sg.vs = L2.map Sg.vs) := he1.trans he2.symm
  have HRA5 := Lib.hid ((HRA.out.below hb35).more hb35.size)
  clear hn1 hb4 hb5 hr1 hk1 he1 hr2 hk2 he2 HU HRc HRA HC3 hbw4 hbw3 hb35 HCl
  try go_frame
  go_wp2_with fail
  go_loopw [12] (fun iv wr => CntRel n1 w5 iv wr) (fun iv _ => n1 - (intOf iv).toNat)
  case atStart => exact ⟨0, rfl, Nat.zero_le _, Below.refl _ _⟩
  case round =>
    obtain ⟨i, rfl, hin, hbw⟩ := hrel
    by_cases hi : i < n1
    · have di : decide ((i : Int) < (n1 : Int)) = true := by simp; omega
      have i0 : (0 : Int) ≤ (i : Int) := by omega
      have i1 : (i : Int) < (n1 : Int) := by omega
      obtain ⟨e, he⟩ : ∃ e, L1[i]? = some e := ⟨_, List.getElem?_eq_getElem (by rw [HN1.out]; exact hi)⟩
      obtain ⟨h, hh⟩ : ∃ h, L2[i]? = some h := ⟨_, List.getElem?_eq_getElem (by rw [HN2.out]; exact hi)⟩
      have hs := same_vs18 HQ.out he hh
      obtain ⟨b, o, rfl, _, _⟩ := HR1.out.cells (by intro h0; have := flat_length sgc 23 L1 (sgc_len L1); rw [h0, HN1.out] at this; simp at this; omega)
      obtain ⟨b', o', rfl, _, _⟩ := HR2.out.cells (by intro h0; have := flat_length sgc 23 L2 (sgc_len L2); rw [h0, HN2.out] at this; simp at this; omega)
      have HRows : Hid (∀ V, Below w5.heap.size w5 V → rowAt V b (o + i * 23) 23 = some e.cells ∧ rowAt V b' (o' + i * 23) 23 = some h.cells) := fun V hV => ⟨(HR1.out.below hV).sgRow he, (HR2.out.below hV).sgRow hh⟩
      have HA : Hid (∀ V, Below w5.heap.size w5 V → Calls Tryz.prog 28 #[e.val, h.val] V (BoolPost V true)) := fun V hV => by
        have h := same18_any e h V (((HK1.out e (List.mem_of_getElem? he)).1.below hV).more hV.size) (((HK2.out h (List.mem_of_getElem? hh)).1.below hV).more hV.size)
        rwa [decide_eq_true hs] at h
      clear he hh hs
      go_upto_region 9 with fail
      refine wp_region_noPanic ?_
      refine wp_region_held_drew (S := fun w' => rowAt w' b (o + i * 23) 23 = some e.cells ∧ rowAt w' b' (o' + i * 23) 23 = some h.cells) (by kernel_rfl) (HRows.out _ hbw.drew) (fun hHeld => ?_)
      refine wpAnyH_takeD (some 45) (i := 0) (v := ?vh1_0) rfl rfl (by kernel_rfl) (by kernel_rfl) (by kernel_rfl) (fun _ _ _ h => h) (by rfl) ?hh1_0 (by assumption) ?_
      case hh1_0 => (intro wq hSw; (try dsimp only at hSw); go_simp; (try (with_reducible rfl)))
      go_frame
      refine wpAnyH_takeD (some 46) (i := 1) (v := ?vh1_1) rfl rfl (by kernel_rfl) (by kernel_rfl) (by kernel_rfl) (fun _ _ _ h => h) (by rfl) ?hh1_1 (by assumption) ?_
      case hh1_1 => (intro wq hSw; (try dsimp only at hSw); go_simp; (try (with_reducible rfl)))
      go_frame
      refine wpAnyH_takeD (some 47) (i := 2) (v := ?vh1_2) rfl rfl (by kernel_rfl) (by kernel_rfl) (by kernel_rfl) (fun _ _ _ h => h) (by rfl) ?hh1_2 (by assumption) ?_
      case hh1_2 => (intro wq hSw; (try dsimp only at hSw); go_simp; (try (with_reducible rfl)))
      go_frame
      refine wpAnyH_takeD (some 48) (i := 3) (v := ?vh1_3) rfl rfl (by kernel_rfl) (by kernel_rfl) (by kernel_rfl) (fun _ _ _ h => h) (by rfl) ?hh1_3 (by assumption) ?_
      case hh1_3 => (intro wq hSw; (try dsimp only at hSw); go_simp; (try (with_reducible rfl)))
      go_frame
      refine wpAnyH_takeD (some 49) (i := 4) (v := ?vh1_4) rfl rfl (by kernel_rfl) (by kernel_rfl) (by kernel_rfl) (fun _ _ _ h => h) (by rfl) ?hh1_4 (by assumption) ?_
      case hh1_4 => (intro wq hSw; (try dsimp only at hSw); go_simp; (try (with_reducible rfl)))
      go_frame
      refine wpAnyH_takeD (some 50) (i := 5) (v := ?vh1_5) rfl rfl (by kernel_rfl) (by kernel_rfl) (by kernel_rfl) (fun _ _ _ h => h) (by rfl) ?hh1_5 (by assumption) ?_
      case hh1_5 => (intro wq hSw; (try dsimp only at hSw); go_simp; (try (with_reducible rfl)))
      go_frame
      refine wpAnyH_takeD (some 51) (i := 6) (v := ?vh1_6) rfl rfl (by kernel_rfl) (by kernel_rfl) (by kernel_rfl) (fun _ _ _ h => h) (by rfl) ?hh1_6 (by assumption) ?_
      case hh1_6 => (intro wq hSw; (try dsimp only at hSw); go_simp; (try (with_reducible rfl)))
      go_frame
      refine wpAnyH_takeD (some 52) (i := 7) (v := ?vh1_7) rfl rfl (by kernel_rfl) (by kernel_rfl) (by kernel_rfl) (fun _ _ _ h => h) (by rfl) ?hh1_7 (by assumption) ?_
      case hh1_7 => (intro wq hSw; (try dsimp only at hSw); go_simp; (try (with_reducible rfl)))
      go_frame
      refine wpAnyH_ready (rs := [8]) (by kernel_rfl) (by simp) ?_
      refine AllReadyH.cons rfl (fun K hK => ?_) AllReadyH.nil
      go_simp
      refine (HA.out _ hbw.drew).mono ?_; rintro en w6 ⟨rfl, hb6⟩; have hbw2 := hbw.drew.trans (hb6.mono hbw.size)
      go_wp2_with fail
      refine hK.out _ _ (HRows.out _ hbw2) (fun hHeld => ?_)
      clear hK K
      try go_frame
      refine wpAnyH_takeD (some 54) (i := 9) (v := ?vh1_9) rfl rfl (by kernel_rfl) (by kernel_rfl) (by kernel_rfl) (fun _ _ _ h => h) (by rfl) ?hh1_9 (by assumption) ?_
      case hh1_9 => (intro wq hSw; (try dsimp only at hSw); go_simp; (try (with_reducible rfl)))
      go_frame
      refine wpAnyH_done (by kernel_rfl) ?_ _
      refine NoPanic.normal ?_
      go_wp2_with fail
      go_roundw
      case rel => exact ⟨i + 1, by go_num, by omega, hbw2⟩
      case measure => simp [intOf]; omega
    · have di : decide ((i : Int) < (n1 : Int)) = false := by simp; omega
      have hb6 := hbw5.trans (hbw.mono hbw5.size)
      have hrA := (HRA5.out.below hbw).more hbw.size
      have HRA6 := Lib.hid hrA
      clear HR1 HK1 HR2 HK2 HQ HN1 HN2 HRA5 hbw hrA
      try go_frame
      go_upto_region 12 with (first
        | (go_at_call 29; refine (HX.out _ hb6).mono ?_; rintro en w7 ⟨E1, B1, k1, rfl, hb7, hr7, hk7, he7⟩; have hbw7 := hb6.trans (hb7.mono hb6.size))
        | (go_at_call 30; refine (HRf.out B3 c3 _ hbw7 ((HRA6.out.below hb7).more hb7.size)).mono ?_; rintro en w8 ⟨E2, B2, k2, rfl, hb8, hr8, hk8, he8⟩))
      have hbw8 := hbw7.trans (hb8.mono hbw7.size)
      obtain ⟨ne, hne⟩ : ∃ n, n = FF.length := ⟨_, rfl⟩
      have hne10 : ne ≤ 10 := by rw [hne]; exact hlF
      have HE1 : Hid (E1.length = ne) := by unfold Hid; rw [hne, ← he7, List.length_map]
      have HE2 : Hid (E2.length = ne) := by unfold Hid; rw [hne, ← he8, List.length_map]
      rw [← hne] at HRb HSn ⊢
      have HR1 := Lib.hid ((hr7.below hb8).more hb8.size)
      have HK1 := Lib.hid (hk7.below hb8)
      have HR2 := Lib.hid hr8
      have HK2 := Lib.hid hk8
      have HQ : Hid (E1.map Ev.vs = E2.map Ev.vs) := he7.trans he8.symm
      have HEF := Lib.hid he8
      clear hne hb7 hb8 hr7 hk7 he7 hr8 hk8 he8 HX HRf hbw7 hb6 hlF HRA6 hbw5
      try go_frame
      go_wp2_with fail
      go_loopw [15] (fun iv wr => CntRel ne w8 iv wr) (fun iv _ => ne - (intOf iv).toNat)
      case atStart => exact ⟨0, rfl, Nat.zero_le _, Below.refl _ _⟩
      case round =>
        obtain ⟨i, rfl, hin, hbw⟩ := hrel
        by_cases hi : i < ne
        · have di : decide ((i : Int) < (ne : Int)) = true := by simp; omega
          have i0 : (0 : Int) ≤ (i : Int) := by omega
          have i1 : (i : Int) < (ne : Int) := by omega
          obtain ⟨e, he⟩ : ∃ e, E1[i]? = some e := ⟨_, List.getElem?_eq_getElem (by rw [HE1.out]; exact hi)⟩
          obtain ⟨h, hh⟩ : ∃ h, E2[i]? = some h := ⟨_, List.getElem?_eq_getElem (by rw [HE2.out]; exact hi)⟩
          have hs := same_at HQ.out he hh
          obtain ⟨b, o, rfl, _, _⟩ := HR1.out.cells (by intro h0; have := evc_length E1; rw [h0, HE1.out] at this; simp at this; omega)
          obtain ⟨b', o', rfl, _, _⟩ := HR2.out.cells (by intro h0; have := evc_length E2; rw [h0, HE2.out] at this; simp at this; omega)
          have HRows : Hid (∀ V, Below w8.heap.size w8 V → rowAt V b (o + i * 46) 23 = some e.a.cells ∧ rowAt V b (o + i * 46 + 23) 23 = some e.b.cells ∧ rowAt V b' (o' + i * 46) 23 = some h.a.cells ∧ rowAt V b' (o' + i * 46 + 23) 23 = some h.b.cells) := fun V hV =>
            ⟨(HR1.out.below hV).evA he, (HR1.out.below hV).evB he, (HR2.out.below hV).evA hh, (HR2.out.below hV).evB hh⟩
          have HA : Hid (∀ V, Below w8.heap.size w8 V → Calls Tryz.prog 28 #[e.a.val, h.a.val] V (BoolPost V true)) := fun V hV => by
            have h := same18_any e.a h.a V (((HK1.out e (List.mem_of_getElem? he)).1.1.below hV).more hV.size) (((HK2.out h (List.mem_of_getElem? hh)).1.1.below hV).more hV.size)
            rwa [decide_eq_true (congrArg Prod.fst hs)] at h
          have HB : Hid (∀ V, Below w8.heap.size w8 V → Calls Tryz.prog 28 #[e.b.val, h.b.val] V (BoolPost V true)) := fun V hV => by
            have h := same18_any e.b h.b V (((HK1.out e (List.mem_of_getElem? he)).2.1.below hV).more hV.size) (((HK2.out h (List.mem_of_getElem? hh)).2.1.below hV).more hV.size)
            rwa [decide_eq_true (congrArg Prod.snd hs)] at h
          clear he hh hs
          go_upto_region 17 with fail
          refine wp_region_noPanic ?_
          refine wp_region_held_drew (S := fun w' => rowAt w' b (o + i * 46) 23 = some e.a.cells ∧ rowAt w' b (o + i * 46 + 23) 23 = some e.b.cells ∧ rowAt w' b' (o' + i * 46) 23 = some h.a.cells ∧ rowAt w' b' (o' + i * 46 + 23) 23 = some h.b.cells) (by kernel_rfl) (HRows.out _ hbw.drew) (fun hHeld => ?_)
          refine wpAnyH_takeD (some 73) (i := 0) (v := ?vh2_0) rfl rfl (by kernel_rfl) (by kernel_rfl) (by kernel_rfl) (fun _ _ _ h => h) (by rfl) ?hh2_0 (by assumption) ?_
          case hh2_0 => (intro wq hSw; (try dsimp only at hSw); go_simp; (try (with_reducible rfl)))
          go_frame
          refine wpAnyH_takeD (some 74) (i := 1) (v := ?vh2_1) rfl rfl (by kernel_rfl) (by kernel_rfl) (by kernel_rfl) (fun _ _ _ h => h) (by rfl) ?hh2_1 (by assumption) ?_
          case hh2_1 => (intro wq hSw; (try dsimp only at hSw); go_simp; (try (with_reducible rfl)))
          go_frame
          refine wpAnyH_takeD (some 75) (i := 2) (v := ?vh2_2) rfl rfl (by kernel_rfl) (by kernel_rfl) (by kernel_rfl) (fun _ _ _ h => h) (by rfl) ?hh2_2 (by assumption) ?_
          case hh2_2 => (intro wq hSw; (try dsimp only at hSw); go_simp; (try (with_reducible rfl)))
          go_frame
          refine wpAnyH_takeD (some 76) (i := 3) (v := ?vh2_3) rfl rfl (by kernel_rfl) (by kernel_rfl) (by kernel_rfl) (fun _ _ _ h => h) (by rfl) ?hh2_3 (by assumption) ?_
          case hh2_3 => (intro wq hSw; (try dsimp only at hSw); go_simp; (try (with_reducible rfl)))
          go_frame
          refine wpAnyH_takeD (some 77) (i := 4) (v := ?vh2_4) rfl rfl (by kernel_rfl) (by kernel_rfl) (by kernel_rfl) (fun _ _ _ h => h) (by rfl) ?hh2_4 (by assumption) ?_
          case hh2_4 => (intro wq hSw; (try dsimp only at hSw); go_simp; (try (with_reducible rfl)))
          go_frame
          refine wpAnyH_takeD (some 78) (i := 5) (v := ?vh2_5) rfl rfl (by kernel_rfl) (by kernel_rfl) (by kernel_rfl) (fun _ _ _ h => h) (by rfl) ?hh2_5 (by assumption) ?_
          case hh2_5 => (intro wq hSw; (try dsimp only at hSw); go_simp; (try (with_reducible rfl)))
          go_frame
          refine wpAnyH_takeD (some 79) (i := 6) (v := ?vh2_6) rfl rfl (by kernel_rfl) (by kernel_rfl) (by kernel_rfl) (fun _ _ _ h => h) (by rfl) ?hh2_6 (by assumption) ?_
          case hh2_6 => (intro wq hSw; (try dsimp only at hSw); go_simp; (try (with_reducible rfl)))
          go_frame
          refine wpAnyH_takeD (some 80) (i := 7) (v := ?vh2_7) rfl rfl (by kernel_rfl) (by kernel_rfl) (by kernel_rfl) (fun _ _ _ h => h) (by rfl) ?hh2_7 (by assumption) ?_
          case hh2_7 => (intro wq hSw; (try dsimp only at hSw); go_simp; (try (with_reducible rfl)))
          go_frame
          refine wpAnyH_takeD (some 81) (i := 8) (v := ?vh2_8) rfl rfl (by kernel_rfl) (by kernel_rfl) (by kernel_rfl) (fun _ _ _ h => h) (by rfl) ?hh2_8 (by assumption) ?_
          case hh2_8 => (intro wq hSw; (try dsimp only at hSw); go_simp; (try (with_reducible rfl)))
          go_frame
          refine wpAnyH_takeD (some 82) (i := 9) (v := ?vh2_9) rfl rfl (by kernel_rfl) (by kernel_rfl) (by kernel_rfl) (fun _ _ _ h => h) (by rfl) ?hh2_9 (by assumption) ?_
          case hh2_9 => (intro wq hSw; (try dsimp only at hSw); go_simp; (try (with_reducible rfl)))
          go_frame
          refine wpAnyH_ready (rs := [10]) (by kernel_rfl) (by simp) ?_
          refine AllReadyH.cons rfl (fun K hK => ?_) AllReadyH.nil
          go_simp
          refine (HA.out _ hbw.drew).mono ?_; rintro en w9 ⟨rfl, hb9⟩; have hbw2 := hbw.drew.trans (hb9.mono hbw.size)
          go_wp2_with fail
          refine hK.out _ _ (HRows.out _ hbw2) (fun hHeld => ?_)
          clear hK K
          try go_frame
          refine wpAnyH_takeD (some 84) (i := 11) (v := ?vh2_11) rfl rfl (by kernel_rfl) (by kernel_rfl) (by kernel_rfl) (fun _ _ _ h => h) (by rfl) ?hh2_11 (by assumption) ?_
          case hh2_11 => (intro wq hSw; (try dsimp only at hSw); go_simp; (try (with_reducible rfl)))
          go_frame
          refine wpAnyH_takeD (some 85) (i := 12) (v := ?vh2_12) rfl rfl (by kernel_rfl) (by kernel_rfl) (by kernel_rfl) (fun _ _ _ h => h) (by rfl) ?hh2_12 (by assumption) ?_
          case hh2_12 => (intro wq hSw; (try dsimp only at hSw); go_simp; (try (with_reducible rfl)))
          go_frame
          refine wpAnyH_takeD (some 86) (i := 13) (v := ?vh2_13) rfl rfl (by kernel_rfl) (by kernel_rfl) (by kernel_rfl) (fun _ _ _ h => h) (by rfl) ?hh2_13 (by assumption) ?_
          case hh2_13 => (intro wq hSw; (try dsimp only at hSw); go_simp; (try (with_reducible rfl)))
          go_frame
          refine wpAnyH_takeD (some 87) (i := 14) (v := ?vh2_14) rfl rfl (by kernel_rfl) (by kernel_rfl) (by kernel_rfl) (fun _ _ _ h => h) (by rfl) ?hh2_14 (by assumption) ?_
          case hh2_14 => (intro wq hSw; (try dsimp only at hSw); go_simp; (try (with_reducible rfl)))
          go_frame
          refine wpAnyH_takeD (some 88) (i := 15) (v := ?vh2_15) rfl rfl (by kernel_rfl) (by kernel_rfl) (by kernel_rfl) (fun _ _ _ h => h) (by rfl) ?hh2_15 (by assumption) ?_
          case hh2_15 => (intro wq hSw; (try dsimp only at hSw); go_simp; (try (with_reducible rfl)))
          go_frame
          refine wpAnyH_takeD (some 89) (i := 16) (v := ?vh2_16) rfl rfl (by kernel_rfl) (by kernel_rfl) (by kernel_rfl) (fun _ _ _ h => h) (by rfl) ?hh2_16 (by assumption) ?_
          case hh2_16 => (intro wq hSw; (try dsimp only at hSw); go_simp; (try (with_reducible rfl)))
          go_frame
          refine wpAnyH_takeD (some 90) (i := 17) (v := ?vh2_17) rfl rfl (by kernel_rfl) (by kernel_rfl) (by kernel_rfl) (fun _ _ _ h => h) (by rfl) ?hh2_17 (by assumption) ?_
          case hh2_17 => (intro wq hSw; (try dsimp only at hSw); go_simp; (try (with_reducible rfl)))
          go_frame
          refine wpAnyH_takeD (some 91) (i := 18) (v := ?vh2_18) rfl rfl (by kernel_rfl) (by kernel_rfl) (by kernel_rfl) (fun _ _ _ h => h) (by rfl) ?hh2_18 (by assumption) ?_
          case hh2_18 => (intro wq hSw; (try dsimp only at hSw); go_simp; (try (with_reducible rfl)))
          go_frame
          refine wpAnyH_takeD (some 92) (i := 19) (v := ?vh2_19) rfl rfl (by kernel_rfl) (by kernel_rfl) (by kernel_rfl) (fun _ _ _ h => h) (by rfl) ?hh2_19 (by assumption) ?_
          case hh2_19 => (intro wq hSw; (try dsimp only at hSw); go_simp; (try (with_reducible rfl)))
          go_frame
          refine wpAnyH_takeD (some 93) (i := 20) (v := ?vh2_20) rfl rfl (by kernel_rfl) (by kernel_rfl) (by kernel_rfl) (fun _ _ _ h => h) (by rfl) ?hh2_20 (by assumption) ?_
          case hh2_20 => (intro wq hSw; (try dsimp only at hSw); go_simp; (try (with_reducible rfl)))
          go_frame
          refine wpAnyH_takeD (some 94) (i := 21) (v := ?vh2_21) rfl rfl (by kernel_rfl) (by kernel_rfl) (by kernel_rfl) (fun _ _ _ h => h) (by rfl) ?hh2_21 (by assumption) ?_
          case hh2_21 => (intro wq hSw; (try dsimp only at hSw); go_simp; (try (with_reducible rfl)))
          go_frame
          refine wpAnyH_takeD (some 95) (i := 22) (v := ?vh2_22) rfl rfl (by kernel_rfl) (by kernel_rfl) (by kernel_rfl) (fun _ _ _ h => h) (by rfl) ?hh2_22 (by assumption) ?_
          case hh2_22 => (intro wq hSw; (try dsimp only at hSw); go_simp; (try (with_reducible rfl)))
          go_frame
          refine wpAnyH_ready (rs := [23]) (by kernel_rfl) (by simp) ?_
          refine AllReadyH.cons rfl (fun K hK => ?_) AllReadyH.nil
          go_simp
          refine (HB.out _ hbw2).mono ?_; rintro en w10 ⟨rfl, hb10⟩; have hbw3 := hbw2.trans (hb10.mono hbw2.size)
          go_wp2_with fail
          refine hK.out _ _ (HRows.out _ hbw3) (fun hHeld => ?_)
          clear hK K
          try go_frame
          refine wpAnyH_takeD (some 97) (i := 24) (v := ?vh2_24) rfl rfl (by kernel_rfl) (by kernel_rfl) (by kernel_rfl) (fun _ _ _ h => h) (by rfl) ?hh2_24 (by assumption) ?_
          case hh2_24 => (intro wq hSw; (try dsimp only at hSw); go_simp; (try (with_reducible rfl)))
          go_frame
          refine wpAnyH_takeD (some 98) (i := 25) (v := ?vh2_25) rfl rfl (by kernel_rfl) (by kernel_rfl) (by kernel_rfl) (fun _ _ _ h => h) (by rfl) ?hh2_25 (by assumption) ?_
          case hh2_25 => (intro wq hSw; (try dsimp only at hSw); go_simp; (try (with_reducible rfl)))
          go_frame
          refine wpAnyH_done (by kernel_rfl) ?_ _
          refine NoPanic.normal ?_
          go_wp2_with fail
          go_roundw
          case rel => exact ⟨i + 1, by go_num, by omega, hbw3⟩
          case measure => simp [intOf]; omega
        · have di : decide ((i : Int) < (ne : Int)) = false := by simp; omega
          have hb9 := hbw8.trans (hbw.mono hbw8.size)
          have hr2 := (HR2.out.below hbw).more hbw.size
          have hk2 := HK2.out.below hbw
          have HR2' := Lib.hid hr2
          have HK2' := Lib.hid hk2
          obtain ⟨ok, hok⟩ : ∃ k, k = decide (FF ≠ []) := ⟨_, rfl⟩
          obtain ⟨st, hst⟩ : ∃ s : ByteArray, s = ⟨(if FF = [] then [] else pbS FF).toArray⟩ := ⟨_, rfl⟩
          have HP1 : Hid (Calls Tryz.prog 31 #[.slice K nk ck, .slice A n' c, .slice A' m' c'] wr fun e w' => ∃ A N c, e = .returned (.tuple #[.slice A N c, .bool ok]) ∧ (∀ V, Below w'.heap.size w' V → (convert 32 9 (.slice A N c)).run Tryz.prog V = .ok (.string st) V) ∧ Below wr.heap.size wr w') := by
            unfold Hid
            rw [hok, hst]
            exact (HPf.out _ hb9).mono fun e w' h => h.new18
          have HP2 : Hid (∀ V, Below wr.heap.size wr V → Calls Tryz.prog 32 #[.slice B2 ne k2] V fun e w' => ∃ A N c, e = .returned (.tuple #[.slice A N c, .bool ok]) ∧ (∀ U, Below w'.heap.size w' U → (convert 32 9 (.slice A N c)).run Tryz.prog U = .ok (.string st) U) ∧ Below V.heap.size V w') := fun V hV => by
            rw [hok, hst]
            exact (HRb.out B2 k2 E2 V ((HR2'.out.below hV).more hV.size) (HK2'.out.below hV) HEF.out).mono fun e w' h => h.new18
          have HS2 : Hid (∀ V, Below wr.heap.size wr V → Calls Tryz.prog 16 #[.slice B2 ne k2] V fun e w' => e = .returned (.int .i64 (g : Int)) ∧ w' = V) := fun V hV => HSn.out B2 k2 E2 V ((HR2'.out.below hV).more hV.size) HEF.out
          clear HR1 HK1 HR2 HK2 HQ HE1 HE2 HEF hr2 hk2 HR2' HK2' hok hst hbw HRb HSn HPf hbw8
          try go_frame
          go_upto_region 21 with (first
            | (go_at_call 31; refine HP1.out.mono ?_; rintro en w10 ⟨A10, N10, c10, rfl, hc10, hb10⟩; have HC10 := Lib.hid hc10; clear hc10)
            | (go_at_call 32; refine (HP2.out _ hb10).mono ?_; rintro en w11 ⟨A11, N11, c11, rfl, hc11, hb11⟩; have HC11 := Lib.hid hc11; clear hc11))
          have hb911 := hb10.trans (hb11.mono hb10.size)
          have hbw11 := hb9.trans (hb911.mono hb9.size)
          have va := HC10.out _ hb11
          have vb := HC11.out _ (Below.refl _ _)
          have HAg11 := Lib.hid (HAg.out _ hbw11)
          clear HP1 HP2 HC10 HC11 HAg hb10 hb11
          try go_frame
          go_wp2_with (first
            | (go_at_call 33; refine HAg11.out.mono ?_; rintro en w12 ⟨rfl, hb12⟩; have hb912 := hb911.trans (hb12.mono hb911.size))
            | (go_at_call 16; refine (HS2.out _ hb912).mono ?_; rintro en w13 ⟨rfl, hw13⟩; replace hw13 := hw13.symm; subst hw13)
            | (go_at_call 34; refine (HSz.out _).mono ?_; rintro en w14 ⟨rfl, hb14⟩; have hb914 := hb912.trans (hb14.mono hb912.size))
            | (go_at_call 35; refine (HAw.out _).mono ?_; rintro en w15 ⟨rfl, hb15⟩))
          go_ret
          exact ⟨rfl, hb9.trans ((hb914.trans (hb15.mono hb914.size)).mono hb9.size)⟩

theorem lforen_any (K A A' : Option Addr) (ck c c' : Nat) (mem : Int) (keys : List Nm) (l l' : List Sg) (w : World) (hK : Rd w w.heap.size K (keys.flatMap nmc)) (hr : Rd w w.heap.size A (l.flatMap sgc)) (hr' : Rd w w.heap.size A' (l'.flatMap sgc)) (hok : SgsOk w w.heap.size l) (hok' : SgsOk w w.heap.size l') (hc : l.length ≤ c) (hc' : l'.length ≤ c') :
    Calls Tryz.prog 6 #[.slice K keys.length ck, .int .i64 mem, .slice A l.length c, .slice A' l'.length c'] w fun e w' => e = .returned (.bool true) ∧ Below w.heap.size w w' :=
  have some18 : ∀ {B : Option Addr} {L : List Sg}, Rd w w.heap.size B (L.flatMap sgc) → 80 < L.length → B ≠ none := fun {B L} h1 h2 => by
    obtain ⟨b, o, rfl, _⟩ := h1.cells (by intro e; have := flat_length sgc 23 L (sgc_len L); rw [e] at this; simp at this; omega)
    simp
  lforen_core K A A' keys.length ck l.length (min l.length 80) c l'.length (min l'.length 80) c' mem keys (l.take 80) (l'.take 80) w rfl (by rw [List.length_take]; omega) (by rw [List.length_take]; omega) hK (hr.sgTake 80) (hr'.sgTake 80) (hok.sub (fun s hs => List.mem_of_mem_take hs)) (hok'.sub (fun s hs => List.mem_of_mem_take hs)) (by omega) (by omega)
    (fun W => cut18_any A l.length c W (some18 hr) hc) (fun W => cut18_any A' l'.length c' W (some18 hr') hc')
end Go.Proofs.YthmecidpjlaonaaGreat
namespace Go.Proofs.YthmecidpjlaonaaGreat.forensicsExact
open Go.ChangeShapes Go.WideShapes Go.ChangeAt Go.RowKit

theorem own : ownKnob Tryz.prog.godebug = none := by kernel_rfl
theorem laidOut : laidOutB Tryz.prog = true := by kernel_rfl

set_option maxRecDepth 100000 in
set_option maxHeartbeats 1000000 in
theorem lifted (os : Os) (started : os.Started) (H : Type) (enc : TypeId × Value → H) :
    ReturnsInHanded {} Tryz.checked os 6 .any (Rows.forensicsExactSpec.pre6 enc Tryz.prog Tryz.f6 Rows.forensicsExactRow.domain false) (Rows.forensicsExactSpec.post enc Tryz.prog Tryz.f6 false true false false) := by
  refine returnsInHanded_of_change_sized (C := Tryz.checked) own started (by kernel_rfl) Tryz.func6
    (ChangeSpec.witness6 (enc := enc) (C := Tryz.checked) false ⟨#[], #[.slice none 0 0, .int .i64 0, .slice none 0 0, .slice none 0 0], []⟩ 8 (by kernel_rfl) (by kernel_rfl) (by kernel_rfl) (by kernel_rfl)) ?_
  intro W base args ds gs before hval0 hW hcnd hsz0 _
  have hval : ∀ (j : Nat) t v, Tryz.f6.params[j]? = some t → args[j]? = some v → Value.okWide Tryz.prog W .any base t v := hval0
  have hW' := hW
  obtain ⟨p, q, hA0, hV, rfl, hfz, hnd⟩ := hW
  have hA : DataW.TrodAll enc Tryz.prog W 0 (fun _ => true) true Tryz.f6.params.toList args.toList ds p := hA0
  have hsz : (DataW.weightsEach Tryz.prog (Tryz.f6.params.toList ++ Rows.forensicsExactSpec.plain.varTypes Tryz.prog) (ds ++ gs)).all (· ≤ reachBytes) = true := hsz0
  rw [Tryz.params6] at hA hval hsz
  obtain ⟨v0, vs0, d0, ds0, p0, q0, hargs, rfl, rfl, h0, r0⟩ := trodAll_cons hA
  obtain ⟨v1, vs1, d1, ds1, p1, q1, ha1, rfl, rfl, h1, r1⟩ := trodAll_cons r0
  subst ha1
  obtain ⟨v2, vs2, d2, ds2, p2, q2, ha2, rfl, rfl, h2, r2⟩ := trodAll_cons r1
  subst ha2
  obtain ⟨v3, vs3, d3, ds3, p3, q3, ha3, rfl, rfl, h3, r3⟩ := trodAll_cons r2
  subst ha3
  obtain ⟨rfl, rfl, rfl⟩ := trodAll_nil r3
  obtain rfl : args = #[v0, v1, v2, v3] := by cases args; simp_all
  obtain ⟨rfl, rfl⟩ := trodVars_none hV
  have hwt : ∀ k ∈ DataW.weightsEach Tryz.prog ([22, 27, 23, 23] ++ Rows.forensicsExactSpec.plain.varTypes Tryz.prog) ([d0, d1, d2, d3] ++ []), k ≤ reachBytes := fun k hk => by simpa using List.all_eq_true.1 hsz k hk
  have k0 := h0
  have lt0 : ∀ x ∈ p0, x.block < W.heap.size := by obtain ⟨m, hm⟩ := k0; exact DataW.trod_lt m _ _ _ hm
  obtain ⟨A0, l0, cap0, hv0, hr0, _, hl0, hm0, _⟩ : ∃ (A : Option Addr) (l : List Nm) (cap : Nat), v0.cells.toList = [.slice A l.length cap] ∧ Rd W W.heap.size A (l.flatMap nmc) ∧ (∀ a ∈ l, True) ∧ l.length ≤ cap ∧ cap ≤ maxLen ∧ l.length * Tryz.prog.bytesOf 29 ≤ reachBytes := by
    obtain ⟨fuel, hf⟩ := h0
    exact open_list nmc 8 (fun _ => True) Tryz.underlying22 cells39 (by omega) (fun n cs x h _ => by obtain ⟨nm, e⟩ := open_name h; exact ⟨nm, e, trivial⟩) (fun _ => rfl) hf (mem_weightsEach hwt (j := 0) (t := 22) rfl rfl)
  obtain ⟨a0, len0, c0, rfl⟩ := okWide_slice Tryz.underlying22 (hval 0 22 v0 rfl rfl)
  simp [Value.cells] at hv0
  obtain ⟨rfl, rfl, rfl⟩ := hv0
  have k1 := h1
  have lt1 : ∀ x ∈ p1, x.block < W.heap.size := by obtain ⟨m, hm⟩ := k1; exact DataW.trod_lt m _ _ _ hm
  obtain ⟨n1, hv1, _, hw1⟩ : ∃ n : Int, v1.cells.toList = [.int .i64 n] ∧ True ∧ (Lit.int .i64 n).wf = true := by
    obtain ⟨fuel, hf⟩ := h1
    obtain ⟨n, e, _, hw⟩ := DataW.trod_int Tryz.underlying27 hf
    exact ⟨n, e, trivial, hw⟩
  obtain ⟨m1, rfl⟩ := okWide_int Tryz.underlying27 (hval 1 27 v1 rfl rfl)
  simp [Value.cells] at hv1
  subst hv1
  have k2 := h2
  have lt2 : ∀ x ∈ p2, x.block < W.heap.size := by obtain ⟨m, hm⟩ := k2; exact DataW.trod_lt m _ _ _ hm
  obtain ⟨A2, l2, cap2, hv2, hr2, hok2, hl2, hm2, _⟩ : ∃ (A : Option Addr) (l : List Sg) (cap : Nat), v2.cells.toList = [.slice A l.length cap] ∧ Rd W W.heap.size A (l.flatMap sgc) ∧ (∀ a ∈ l, SgOk W W.heap.size a ∧ SgCap a) ∧ l.length ≤ cap ∧ cap ≤ maxLen ∧ l.length * Tryz.prog.bytesOf 34 ≤ reachBytes := by
    obtain ⟨fuel, hf⟩ := h2
    exact open_list sgc 23 (fun a => SgOk W W.heap.size a ∧ SgCap a) Tryz.underlying23 cells43 (by omega) (fun n cs x h hw => open_signed2 h hw) (fun e => by simp [sgc, Sg.size_cells]) hf (mem_weightsEach hwt (j := 2) (t := 23) rfl rfl)
  obtain ⟨a2, len2, c2, rfl⟩ := okWide_slice Tryz.underlying23 (hval 2 23 v2 rfl rfl)
  simp [Value.cells] at hv2
  obtain ⟨rfl, rfl, rfl⟩ := hv2
  have k3 := h3
  have lt3 : ∀ x ∈ p3, x.block < W.heap.size := by obtain ⟨m, hm⟩ := k3; exact DataW.trod_lt m _ _ _ hm
  obtain ⟨A3, l3, cap3, hv3, hr3, hok3, hl3, hm3, _⟩ : ∃ (A : Option Addr) (l : List Sg) (cap : Nat), v3.cells.toList = [.slice A l.length cap] ∧ Rd W W.heap.size A (l.flatMap sgc) ∧ (∀ a ∈ l, SgOk W W.heap.size a ∧ SgCap a) ∧ l.length ≤ cap ∧ cap ≤ maxLen ∧ l.length * Tryz.prog.bytesOf 34 ≤ reachBytes := by
    obtain ⟨fuel, hf⟩ := h3
    exact open_list sgc 23 (fun a => SgOk W W.heap.size a ∧ SgCap a) Tryz.underlying23 cells43 (by omega) (fun n cs x h hw => open_signed2 h hw) (fun e => by simp [sgc, Sg.size_cells]) hf (mem_weightsEach hwt (j := 3) (t := 23) rfl rfl)
  obtain ⟨a3, len3, c3, rfl⟩ := okWide_slice Tryz.underlying23 (hval 3 23 v3 rfl rfl)
  simp [Value.cells] at hv3
  obtain ⟨rfl, rfl, rfl⟩ := hv3
  clear hA0 hval0
  refine (lforen_any a0 a2 a3 c0 c2 c3 m1 l0 l2 l3 W hr0 hr2 hr3 hok2 hok3 hl2 hl3).mono fun e W' ⟨he, bel⟩ => ?_
  subst he
  exact ⟨_, rfl, _, _, _, [], _, [], hW', trodAll_mk1 (shut_bool Tryz.underlying4 _), (trodAll_cons_mk (Below.trod laidOut (by kernel_rfl) (of_decide_eq_true (by kernel_rfl)) k0 bel lt0) (trodAll_cons_mk (Below.trod laidOut (by kernel_rfl) (of_decide_eq_true (by kernel_rfl)) k1 bel lt1) (trodAll_cons_mk (Below.trod laidOut (by kernel_rfl) (of_decide_eq_true (by kernel_rfl)) k2 bel lt2) (trodAll_cons_mk (Below.trod laidOut (by kernel_rfl) (of_decide_eq_true (by kernel_rfl)) k3 bel lt3) trodAll_mk0)))), rfl, bel.frame _, fun h => by cases h⟩

theorem over : Rows.forensicsExactRow.holds Tryz.pinned (OpenSpec.ofChange Rows.forensicsExactSpec) :=
  OpenClaim.holds_of_wide 6 Tryz.f6 rfl rfl rfl rfl rfl rfl rfl ⟨rfl, rfl, rfl, rfl, rfl⟩ rfl rfl rfl rfl rfl (by kernel_rfl) Tryz.func6 closed
    (of_decide_eq_true (by kernel_rfl)) (by unfold Func.isWrapper; first | (rw [if_pos (by decide +kernel)]; kernel_rfl) | (rw [if_neg (by decide +kernel)]; exact ⟨rfl, rfl⟩))
    (fun os started H enc _ => lifted os started H enc)

theorem proved : Rows.ForensicsExactSaid := over
end Go.Proofs.YthmecidpjlaonaaGreat.forensicsExact
