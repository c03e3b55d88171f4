/-
  The comparison of two lists of evidence in the statements of layer 9 answers true for like lists. Condition: the lists lie in memory below the call.
-/
import Derived.Test.YthmecidpjlaonaaGreatGPFind
import Derived.Test.YthmecidpjlaonaaGreatGSame9
namespace Go.Proofs.YthmecidpjlaonaaGreat
open Go.RowKit
attribute [local go_sem ↓] Go.wp_at_zero Go.wp_at_succ loadNm loadVt loadSg loadEv
attribute [local go_sem] runNm runVt runSg runEv pickRow_some rowAt_drew rowAt_drewN


theorem Rd.evA {w : World} {B' b o : Nat} {l : List Ev} {k : Nat} {e : Ev} (h : Rd w B' (some ⟨b, o, none⟩) (l.flatMap evc)) (hk : l[k]? = some e) : rowAt w b (o + k * 46) 23 = some e.a.cells := by
  have h1 := (rowAt_back (h.evRow hk)).2
  refine rowAt_of (fun j u hu => h1 j u ?_) e.a.size_cells
  have := e.cell_a j u (by simpa using hu)
  simpa using this
theorem Rd.evB {w : World} {B' b o : Nat} {l : List Ev} {k : Nat} {e : Ev} (h : Rd w B' (some ⟨b, o, none⟩) (l.flatMap evc)) (hk : l[k]? = some e) : rowAt w b (o + k * 46 + 23) 23 = some e.b.cells := by
  have h1 := (rowAt_back (h.evRow hk)).2
  refine rowAt_of (fun j u hu => ?_) e.b.size_cells
  rw [Nat.add_assoc]
  refine h1 (23 + j) u ?_
  have := e.cell_b j u (by simpa using hu)
  simpa using this
def EvsCap (w : World) (E : List Ev) : Prop := ∀ x ∈ E, (SgOk w w.heap.size x.a ∧ SgCap x.a) ∧ (SgOk w w.heap.size x.b ∧ SgCap x.b)
theorem EvsCap.below {w w' : World} {E : List Ev} (h : EvsCap w E) (hb : Below w.heap.size w w') : EvsCap w' E := fun x hx => ⟨⟨((h x hx).1.1.below hb).more hb.size, (h x hx).1.2⟩, ⟨((h x hx).2.1.below hb).more hb.size, (h x hx).2.2⟩⟩
def CntRel (n : Nat) (w : World) (iv : Value) (wr : World) : Prop := ∃ i : Nat, iv = .int .i64 (i : Int) ∧ i ≤ n ∧ Below w.heap.size w wr
theorem same_at {α : Type} {f : α → ES} {E F : List α} (h : E.map f = F.map f) {i : Nat} {e g : α} (he : E[i]? = some e) (hg : F[i]? = some g) : f e = f g := by
  have := congrArg (fun l => l[i]?) h
  simp only [List.getElem?_map, he, hg, Option.map_some, Option.some.injEq] at this
  exact this

set_option maxRecDepth 100000 in
set_option maxHeartbeats 4000000 in
theorem pairs9_eq (A A' : Option Addr) (c c' n : Nat) (E F : List Ev) (w : World) (hE : E.length = n) (hF : F.length = n) (hr : Rd w w.heap.size A (E.flatMap evc)) (hr' : Rd w w.heap.size A' (F.flatMap evc)) (hk : EvsCap w E) (hk' : EvsCap w F)
    (heq : E.map Ev.vs = F.map Ev.vs) (hsmall : n ≤ 1000000) : Calls Tryz.prog 12 #[.slice A n c, .slice A' n c'] w (BoolPost w true) := by
  have HE := Lib.hid hE
  have HF := Lib.hid hF
  have HR := Lib.hid hr
  have HR' := Lib.hid hr'
  have HK := Lib.hid hk
  have HK' := Lib.hid hk'
  have HQ := Lib.hid heq
  clear hE hF hr hr' hk hk' heq
  go_enter Tryz.func12, Tryz.ntmps12
  go_wp2
  go_loopw [5] (fun iv wr => CntRel n w iv wr) (fun iv _ => n - (intOf iv).toNat)
  case atStart => exact ⟨0, rfl, Nat.zero_le _, Below.refl _ _⟩
  case round =>
    obtain ⟨i, rfl, hin, hbw⟩ := hrel
    by_cases hi : i < n
    · have di : decide ((i : Int) < (n : Int)) = true := by simp; omega
      have i0 : (0 : Int) ≤ (i : Int) := by omega
      have i1 : (i : Int) < (n : Int) := by omega
      obtain ⟨e, he⟩ : ∃ e, E[i]? = some e := ⟨_, List.getElem?_eq_getElem (by rw [HE.out]; exact hi)⟩
      obtain ⟨g, hg⟩ : ∃ g, F[i]? = some g := ⟨_, List.getElem?_eq_getElem (by rw [HF.out]; exact hi)⟩
      have hs := same_at HQ.out he hg
      obtain ⟨b, o, rfl, _, _⟩ := HR.out.cells (by intro h0; have := evc_length E; rw [h0, HE.out] at this; simp at this; omega)
      obtain ⟨b', o', rfl, _, _⟩ := HR'.out.cells (by intro h0; have := evc_length F; rw [h0, HF.out] at this; simp at this; omega)
      have HRows : Hid (∀ V, Below w.heap.size w V → rowAt V b (o + i * 46) 23 = some e.a.cells ∧ rowAt V b (o + i * 46 + 23) 23 = some e.b.cells ∧ rowAt V b' (o' + i * 46) 23 = some g.a.cells ∧ rowAt V b' (o' + i * 46 + 23) 23 = some g.b.cells) := fun V hV =>
        ⟨(HR.out.below hV).evA he, (HR.out.below hV).evB he, (HR'.out.below hV).evA hg, (HR'.out.below hV).evB hg⟩
      have HA : Hid (∀ V, Below w.heap.size w V → Calls Tryz.prog 11 #[e.a.val, g.a.val] V (BoolPost V true)) := fun V hV => by
        have h := same9_any e.a g.a V (((HK.out e (List.mem_of_getElem? he)).1.1.below hV).more hV.size) (((HK'.out g (List.mem_of_getElem? hg)).1.1.below hV).more hV.size)
        rwa [decide_eq_true (congrArg Prod.fst hs)] at h
      have HB : Hid (∀ V, Below w.heap.size w V → Calls Tryz.prog 11 #[e.b.val, g.b.val] V (BoolPost V true)) := fun V hV => by
        have h := same9_any e.b g.b V (((HK.out e (List.mem_of_getElem? he)).2.1.below hV).more hV.size) (((HK'.out g (List.mem_of_getElem? hg)).2.1.below hV).more hV.size)
        rwa [decide_eq_true (congrArg Prod.snd hs)] at h
      clear he hg hs
      go_upto_region 6 with fail
      refine wp_region_noPanic ?_
      refine wp_region_held_drew (S := fun w' => rowAt w' b (o + i * 46) 23 = some e.a.cells ∧ rowAt w' b (o + i * 46 + 23) 23 = some e.b.cells ∧ rowAt w' b' (o' + i * 46) 23 = some g.a.cells ∧ rowAt w' b' (o' + i * 46 + 23) 23 = some g.b.cells) (by kernel_rfl) (HRows.out _ hbw.drew) (fun hHeld => ?_)
      refine wpAnyH_takeD (some 17) (i := 0) (v := ?vh1_0) rfl rfl (by kernel_rfl) (by kernel_rfl) (by kernel_rfl) (fun _ _ _ h => h) (by rfl) ?hh1_0 (by assumption) ?_
      case hh1_0 => (intro wq hSw; (try dsimp only at hSw); go_simp; (try (with_reducible rfl)))
      go_frame
      refine wpAnyH_takeD (some 18) (i := 1) (v := ?vh1_1) rfl rfl (by kernel_rfl) (by kernel_rfl) (by kernel_rfl) (fun _ _ _ h => h) (by rfl) ?hh1_1 (by assumption) ?_
      case hh1_1 => (intro wq hSw; (try dsimp only at hSw); go_simp; (try (with_reducible rfl)))
      go_frame
      refine wpAnyH_takeD (some 19) (i := 2) (v := ?vh1_2) rfl rfl (by kernel_rfl) (by kernel_rfl) (by kernel_rfl) (fun _ _ _ h => h) (by rfl) ?hh1_2 (by assumption) ?_
      case hh1_2 => (intro wq hSw; (try dsimp only at hSw); go_simp; (try (with_reducible rfl)))
      go_frame
      refine wpAnyH_takeD (some 20) (i := 3) (v := ?vh1_3) rfl rfl (by kernel_rfl) (by kernel_rfl) (by kernel_rfl) (fun _ _ _ h => h) (by rfl) ?hh1_3 (by assumption) ?_
      case hh1_3 => (intro wq hSw; (try dsimp only at hSw); go_simp; (try (with_reducible rfl)))
      go_frame
      refine wpAnyH_takeD (some 21) (i := 4) (v := ?vh1_4) rfl rfl (by kernel_rfl) (by kernel_rfl) (by kernel_rfl) (fun _ _ _ h => h) (by rfl) ?hh1_4 (by assumption) ?_
      case hh1_4 => (intro wq hSw; (try dsimp only at hSw); go_simp; (try (with_reducible rfl)))
      go_frame
      refine wpAnyH_takeD (some 22) (i := 5) (v := ?vh1_5) rfl rfl (by kernel_rfl) (by kernel_rfl) (by kernel_rfl) (fun _ _ _ h => h) (by rfl) ?hh1_5 (by assumption) ?_
      case hh1_5 => (intro wq hSw; (try dsimp only at hSw); go_simp; (try (with_reducible rfl)))
      go_frame
      refine wpAnyH_takeD (some 23) (i := 6) (v := ?vh1_6) rfl rfl (by kernel_rfl) (by kernel_rfl) (by kernel_rfl) (fun _ _ _ h => h) (by rfl) ?hh1_6 (by assumption) ?_
      case hh1_6 => (intro wq hSw; (try dsimp only at hSw); go_simp; (try (with_reducible rfl)))
      go_frame
      refine wpAnyH_takeD (some 24) (i := 7) (v := ?vh1_7) rfl rfl (by kernel_rfl) (by kernel_rfl) (by kernel_rfl) (fun _ _ _ h => h) (by rfl) ?hh1_7 (by assumption) ?_
      case hh1_7 => (intro wq hSw; (try dsimp only at hSw); go_simp; (try (with_reducible rfl)))
      go_frame
      refine wpAnyH_takeD (some 25) (i := 8) (v := ?vh1_8) rfl rfl (by kernel_rfl) (by kernel_rfl) (by kernel_rfl) (fun _ _ _ h => h) (by rfl) ?hh1_8 (by assumption) ?_
      case hh1_8 => (intro wq hSw; (try dsimp only at hSw); go_simp; (try (with_reducible rfl)))
      go_frame
      refine wpAnyH_takeD (some 26) (i := 9) (v := ?vh1_9) rfl rfl (by kernel_rfl) (by kernel_rfl) (by kernel_rfl) (fun _ _ _ h => h) (by rfl) ?hh1_9 (by assumption) ?_
      case hh1_9 => (intro wq hSw; (try dsimp only at hSw); go_simp; (try (with_reducible rfl)))
      go_frame
      refine wpAnyH_ready (rs := [10]) (by kernel_rfl) (by simp) ?_
      refine AllReadyH.cons rfl (fun K hK => ?_) AllReadyH.nil
      go_simp
      refine (HA.out _ hbw.drew).mono ?_; rintro en w2 ⟨rfl, hb2⟩; have hbw2 := hbw.drew.trans (hb2.mono hbw.size)
      go_wp2_with fail
      refine hK.out _ _ (HRows.out _ hbw2) (fun hHeld => ?_)
      clear hK K
      try go_frame
      refine wpAnyH_takeD (some 28) (i := 11) (v := ?vh1_11) rfl rfl (by kernel_rfl) (by kernel_rfl) (by kernel_rfl) (fun _ _ _ h => h) (by rfl) ?hh1_11 (by assumption) ?_
      case hh1_11 => (intro wq hSw; (try dsimp only at hSw); go_simp; (try (with_reducible rfl)))
      go_frame
      refine wpAnyH_takeD (some 29) (i := 12) (v := ?vh1_12) rfl rfl (by kernel_rfl) (by kernel_rfl) (by kernel_rfl) (fun _ _ _ h => h) (by rfl) ?hh1_12 (by assumption) ?_
      case hh1_12 => (intro wq hSw; (try dsimp only at hSw); go_simp; (try (with_reducible rfl)))
      go_frame
      refine wpAnyH_takeD (some 30) (i := 13) (v := ?vh1_13) rfl rfl (by kernel_rfl) (by kernel_rfl) (by kernel_rfl) (fun _ _ _ h => h) (by rfl) ?hh1_13 (by assumption) ?_
      case hh1_13 => (intro wq hSw; (try dsimp only at hSw); go_simp; (try (with_reducible rfl)))
      go_frame
      refine wpAnyH_takeD (some 31) (i := 14) (v := ?vh1_14) rfl rfl (by kernel_rfl) (by kernel_rfl) (by kernel_rfl) (fun _ _ _ h => h) (by rfl) ?hh1_14 (by assumption) ?_
      case hh1_14 => (intro wq hSw; (try dsimp only at hSw); go_simp; (try (with_reducible rfl)))
      go_frame
      refine wpAnyH_takeD (some 32) (i := 15) (v := ?vh1_15) rfl rfl (by kernel_rfl) (by kernel_rfl) (by kernel_rfl) (fun _ _ _ h => h) (by rfl) ?hh1_15 (by assumption) ?_
      case hh1_15 => (intro wq hSw; (try dsimp only at hSw); go_simp; (try (with_reducible rfl)))
      go_frame
      refine wpAnyH_takeD (some 33) (i := 16) (v := ?vh1_16) rfl rfl (by kernel_rfl) (by kernel_rfl) (by kernel_rfl) (fun _ _ _ h => h) (by rfl) ?hh1_16 (by assumption) ?_
      case hh1_16 => (intro wq hSw; (try dsimp only at hSw); go_simp; (try (with_reducible rfl)))
      go_frame
      refine wpAnyH_takeD (some 34) (i := 17) (v := ?vh1_17) rfl rfl (by kernel_rfl) (by kernel_rfl) (by kernel_rfl) (fun _ _ _ h => h) (by rfl) ?hh1_17 (by assumption) ?_
      case hh1_17 => (intro wq hSw; (try dsimp only at hSw); go_simp; (try (with_reducible rfl)))
      go_frame
      refine wpAnyH_takeD (some 35) (i := 18) (v := ?vh1_18) rfl rfl (by kernel_rfl) (by kernel_rfl) (by kernel_rfl) (fun _ _ _ h => h) (by rfl) ?hh1_18 (by assumption) ?_
      case hh1_18 => (intro wq hSw; (try dsimp only at hSw); go_simp; (try (with_reducible rfl)))
      go_frame
      refine wpAnyH_takeD (some 36) (i := 19) (v := ?vh1_19) rfl rfl (by kernel_rfl) (by kernel_rfl) (by kernel_rfl) (fun _ _ _ h => h) (by rfl) ?hh1_19 (by assumption) ?_
      case hh1_19 => (intro wq hSw; (try dsimp only at hSw); go_simp; (try (with_reducible rfl)))
      go_frame
      refine wpAnyH_takeD (some 37) (i := 20) (v := ?vh1_20) rfl rfl (by kernel_rfl) (by kernel_rfl) (by kernel_rfl) (fun _ _ _ h => h) (by rfl) ?hh1_20 (by assumption) ?_
      case hh1_20 => (intro wq hSw; (try dsimp only at hSw); go_simp; (try (with_reducible rfl)))
      go_frame
      refine wpAnyH_takeD (some 38) (i := 21) (v := ?vh1_21) rfl rfl (by kernel_rfl) (by kernel_rfl) (by kernel_rfl) (fun _ _ _ h => h) (by rfl) ?hh1_21 (by assumption) ?_
      case hh1_21 => (intro wq hSw; (try dsimp only at hSw); go_simp; (try (with_reducible rfl)))
      go_frame
      refine wpAnyH_takeD (some 39) (i := 22) (v := ?vh1_22) rfl rfl (by kernel_rfl) (by kernel_rfl) (by kernel_rfl) (fun _ _ _ h => h) (by rfl) ?hh1_22 (by assumption) ?_
      case hh1_22 => (intro wq hSw; (try dsimp only at hSw); go_simp; (try (with_reducible rfl)))
      go_frame
      refine wpAnyH_ready (rs := [23]) (by kernel_rfl) (by simp) ?_
      refine AllReadyH.cons rfl (fun K hK => ?_) AllReadyH.nil
      go_simp
      refine (HB.out _ hbw2).mono ?_; rintro en w3 ⟨rfl, hb3⟩; have hbw3 := hbw2.trans (hb3.mono hbw2.size)
      go_wp2_with fail
      refine hK.out _ _ (HRows.out _ hbw3) (fun hHeld => ?_)
      clear hK K
      try go_frame
      refine wpAnyH_takeD (some 41) (i := 24) (v := ?vh1_24) rfl rfl (by kernel_rfl) (by kernel_rfl) (by kernel_rfl) (fun _ _ _ h => h) (by rfl) ?hh1_24 (by assumption) ?_
      case hh1_24 => (intro wq hSw; (try dsimp only at hSw); go_simp; (try (with_reducible rfl)))
      go_frame
      refine wpAnyH_takeD (some 42) (i := 25) (v := ?vh1_25) rfl rfl (by kernel_rfl) (by kernel_rfl) (by kernel_rfl) (fun _ _ _ h => h) (by rfl) ?hh1_25 (by assumption) ?_
      case hh1_25 => (intro wq hSw; (try dsimp only at hSw); go_simp; (try (with_reducible rfl)))
      go_frame
      refine wpAnyH_done (by kernel_rfl) ?_ _
      refine NoPanic.normal ?_
      go_wp2_with fail
      go_roundw
      case rel => exact ⟨i + 1, by go_num, by omega, hbw3⟩
      case measure => simp [intOf]; omega
    · have di : decide ((i : Int) < (n : Int)) = false := by simp; omega
      go_wp2
      go_ret
      exact ⟨rfl, hbw⟩
end Go.Proofs.YthmecidpjlaonaaGreat
