/-
  The comparison of two lists of signed votes in the statements of layer 8 answers true for like lists. Condition: the lists lie in memory below the call.
-/
import Derived.Test.YthmecidpjlaonaaGSame
namespace Go.Proofs.Ythmecidpjlaonaa
open Go.RowKit
attribute [local go_sem ↓] Go.wp_at_zero Go.wp_at_succ loadNm loadVt loadSg loadEv
attribute [local go_sem] runNm runVt runSg runEv pickRow_some rowAt_drew rowAt_drewN

def CntRel8 (n : Nat) (w : World) (iv : Value) (wr : World) : Prop := ∃ i : Nat, iv = .int .i64 (i : Int) ∧ i ≤ n ∧ Below w.heap.size w wr
theorem same_vs {E F : List Sg} (h : E.map Sg.vs = F.map Sg.vs) {i : Nat} {e g : Sg} (he : E[i]? = some e) (hg : F[i]? = some g) : e.vs = g.vs := by
  have := congrArg (fun l => l[i]?) h
  simp only [List.getElem?_map, he, hg, Option.map_some, Option.some.injEq] at this
  exact this

set_option maxRecDepth 100000 in
set_option maxHeartbeats 4000000 in
theorem list8_eq (A A' : Option Addr) (c c' n : Nat) (E F : List Sg) (w : World) (hE : E.length = n) (hF : F.length = n) (hr : Rd w w.heap.size A (E.flatMap sgc)) (hr' : Rd w w.heap.size A' (F.flatMap sgc)) (hk : SgsOk w w.heap.size E) (hk' : SgsOk w w.heap.size F)
    (heq : E.map Sg.vs = F.map Sg.vs) (hsmall : n ≤ 1000000) : Calls Try.prog 36 #[.slice A n c, .slice A' n c'] w (BoolPost w true) := by
  have HE := Lib.hid hE
  have HF := Lib.hid hF
  have HR := Lib.hid hr
  have HR' := Lib.hid hr'
  have HK := Lib.hid hk
  have HK' := Lib.hid hk'
  have HQ := Lib.hid heq
  clear hE hF hr hr' hk hk' heq
  go_enter Try.func36, Try.ntmps36
  go_wp2
  go_loopw [5] (fun iv wr => CntRel8 n w iv wr) (fun iv _ => n - (intOf iv).toNat)
  case atStart => exact ⟨0, rfl, Nat.zero_le _, Below.refl _ _⟩
  case round =>
    obtain ⟨i, rfl, hin, hbw⟩ := hrel
    by_cases hi : i < n
    · have di : decide ((i : Int) < (n : Int)) = true := by simp; omega
      have i0 : (0 : Int) ≤ (i : Int) := by omega
      have i1 : (i : Int) < (n : Int) := by omega
      obtain ⟨e, he⟩ : ∃ e, E[i]? = some e := ⟨_, List.getElem?_eq_getElem (by rw [HE.out]; exact hi)⟩
      obtain ⟨g, hg⟩ : ∃ g, F[i]? = some g := ⟨_, List.getElem?_eq_getElem (by rw [HF.out]; exact hi)⟩
      have hs := same_vs HQ.out he hg
      obtain ⟨b, o, rfl, _, _⟩ := HR.out.cells (by intro h0; have := flat_length sgc 23 E (sgc_len E); rw [h0, HE.out] at this; simp at this; omega)
      obtain ⟨b', o', rfl, _, _⟩ := HR'.out.cells (by intro h0; have := flat_length sgc 23 F (sgc_len F); rw [h0, HF.out] at this; simp at this; omega)
      have HRows : Hid (∀ V, Below w.heap.size w V → rowAt V b (o + i * 23) 23 = some e.cells ∧ rowAt V b' (o' + i * 23) 23 = some g.cells) := fun V hV => ⟨(HR.out.below hV).sgRow he, (HR'.out.below hV).sgRow hg⟩
      have HA : Hid (∀ V, Below w.heap.size w V → Calls Try.prog 33 #[e.val, g.val] V (BoolPost V true)) := fun V hV => by
        have h := same8_any e g V (((HK.out e (List.mem_of_getElem? he)).1.below hV).more hV.size) (((HK'.out g (List.mem_of_getElem? hg)).1.below hV).more hV.size)
        rwa [decide_eq_true hs] at h
      clear he hg hs
      go_upto_region 6 with fail
      refine wp_region_noPanic ?_
      refine wp_region_held_drew (S := fun w' => rowAt w' b (o + i * 23) 23 = some e.cells ∧ rowAt w' b' (o' + i * 23) 23 = some g.cells) (by kernel_rfl) (HRows.out _ hbw.drew) (fun hHeld => ?_)
      refine wpAnyH_takeD (some 17) (i := 0) (v := ?vh2_0) rfl rfl (by kernel_rfl) (by kernel_rfl) (by kernel_rfl) (fun _ _ _ h => h) (by rfl) ?hh2_0 (by assumption) ?_
      case hh2_0 => (intro wq hSw; (try dsimp only at hSw); go_simp; (try (with_reducible rfl)))
      go_frame
      refine wpAnyH_takeD (some 18) (i := 1) (v := ?vh2_1) rfl rfl (by kernel_rfl) (by kernel_rfl) (by kernel_rfl) (fun _ _ _ h => h) (by rfl) ?hh2_1 (by assumption) ?_
      case hh2_1 => (intro wq hSw; (try dsimp only at hSw); go_simp; (try (with_reducible rfl)))
      go_frame
      refine wpAnyH_takeD (some 19) (i := 2) (v := ?vh2_2) rfl rfl (by kernel_rfl) (by kernel_rfl) (by kernel_rfl) (fun _ _ _ h => h) (by rfl) ?hh2_2 (by assumption) ?_
      case hh2_2 => (intro wq hSw; (try dsimp only at hSw); go_simp; (try (with_reducible rfl)))
      go_frame
      refine wpAnyH_takeD (some 20) (i := 3) (v := ?vh2_3) rfl rfl (by kernel_rfl) (by kernel_rfl) (by kernel_rfl) (fun _ _ _ h => h) (by rfl) ?hh2_3 (by assumption) ?_
      case hh2_3 => (intro wq hSw; (try dsimp only at hSw); go_simp; (try (with_reducible rfl)))
      go_frame
      refine wpAnyH_takeD (some 21) (i := 4) (v := ?vh2_4) rfl rfl (by kernel_rfl) (by kernel_rfl) (by kernel_rfl) (fun _ _ _ h => h) (by rfl) ?hh2_4 (by assumption) ?_
      case hh2_4 => (intro wq hSw; (try dsimp only at hSw); go_simp; (try (with_reducible rfl)))
      go_frame
      refine wpAnyH_takeD (some 22) (i := 5) (v := ?vh2_5) rfl rfl (by kernel_rfl) (by kernel_rfl) (by kernel_rfl) (fun _ _ _ h => h) (by rfl) ?hh2_5 (by assumption) ?_
      case hh2_5 => (intro wq hSw; (try dsimp only at hSw); go_simp; (try (with_reducible rfl)))
      go_frame
      refine wpAnyH_takeD (some 23) (i := 6) (v := ?vh2_6) rfl rfl (by kernel_rfl) (by kernel_rfl) (by kernel_rfl) (fun _ _ _ h => h) (by rfl) ?hh2_6 (by assumption) ?_
      case hh2_6 => (intro wq hSw; (try dsimp only at hSw); go_simp; (try (with_reducible rfl)))
      go_frame
      refine wpAnyH_takeD (some 24) (i := 7) (v := ?vh2_7) rfl rfl (by kernel_rfl) (by kernel_rfl) (by kernel_rfl) (fun _ _ _ h => h) (by rfl) ?hh2_7 (by assumption) ?_
      case hh2_7 => (intro wq hSw; (try dsimp only at hSw); go_simp; (try (with_reducible rfl)))
      go_frame
      refine wpAnyH_ready (rs := [8]) (by kernel_rfl) (by simp) ?_
      refine AllReadyH.cons rfl (fun K hK => ?_) AllReadyH.nil
      go_simp
      refine (HA.out _ hbw.drew).mono ?_; rintro en w2 ⟨rfl, hb2⟩; have hbw2 := hbw.drew.trans (hb2.mono hbw.size)
      go_wp2_with fail
      refine hK.out _ _ (HRows.out _ hbw2) (fun hHeld => ?_)
      clear hK K
      try go_frame
      refine wpAnyH_takeD (some 26) (i := 9) (v := ?vh2_9) rfl rfl (by kernel_rfl) (by kernel_rfl) (by kernel_rfl) (fun _ _ _ h => h) (by rfl) ?hh2_9 (by assumption) ?_
      case hh2_9 => (intro wq hSw; (try dsimp only at hSw); go_simp; (try (with_reducible rfl)))
      go_frame
      refine wpAnyH_done (by kernel_rfl) ?_ _
      refine NoPanic.normal ?_
      go_wp2_with fail
      go_roundw
      case rel => exact ⟨i + 1, by go_num, by omega, hbw2⟩
      case measure => simp [intOf]; omega
    · have di : decide ((i : Int) < (n : Int)) = false := by simp; omega
      go_wp2
      go_ret
      exact ⟨rfl, hbw⟩
end Go.Proofs.Ythmecidpjlaonaa
