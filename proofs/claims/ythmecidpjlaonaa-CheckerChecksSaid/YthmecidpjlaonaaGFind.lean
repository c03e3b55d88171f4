/-
  The reference's FindIn returns, for each signer from 0 to 9, the first neighbours of the list that are its votes in conflict. Condition: the list lies in memory below the call and has at most a million elements.
  The reference's Verified returns the canonical list of the votes that verify, and its Find the evidence in it. Condition: keys and list lie in memory below the call, the list has at most a million elements.
-/
import Derived.Test.YthmecidpjlaonaaGCan
namespace Go.Proofs.Ythmecidpjlaonaa
open Go.RowKit
attribute [local go_sem ↓] Go.wp_at_zero Go.wp_at_succ loadNm loadVt loadSg loadEv
attribute [local go_sem] runNm runVt runSg runEv pickRow_some rowAt_drew rowAt_drewN

/-- The first neighbours that are votes of signer s in conflict. -/
def firstC (s : Nat) : List Sg → Option Ev
  | x :: y :: r => if x.vote.signer = (s : Int) ∧ ConfP x.vote y.vote then some ⟨x, y⟩ else firstC s (y :: r)
  | _ => none
def findF (l : List Sg) (k : Nat) : List Ev := (List.range k).filterMap fun s => firstC s l
theorem findF_succ (l : List Sg) (k : Nat) : findF l (k + 1) = findF l k ++ (firstC k l).toList := by
  unfold findF
  rw [List.range_succ, List.filterMap_append]
  congr 1
theorem findF_len (l : List Sg) (k : Nat) : (findF l k).length ≤ k := by
  have := List.length_filterMap_le (fun s => firstC s l) (List.range k)
  rw [List.length_range] at this
  exact this
theorem firstC_step {s i : Nat} {l : List Sg} {x y : Sg} (hx : l[i]? = some x) (hy : l[i + 1]? = some y) : firstC s (l.drop i) = if x.vote.signer = (s : Int) ∧ ConfP x.vote y.vote then some ⟨x, y⟩ else firstC s (l.drop (i + 1)) := by
  obtain ⟨hi, rfl⟩ := List.getElem?_eq_some_iff.1 hx
  obtain ⟨hj, rfl⟩ := List.getElem?_eq_some_iff.1 hy
  rw [List.drop_eq_getElem_cons hi, List.drop_eq_getElem_cons hj, firstC]
theorem firstC_short {s i : Nat} {l : List Sg} (h : l.length ≤ i + 1) : firstC s (l.drop i) = none := by
  rcases hd : l.drop i with _ | ⟨x, _ | ⟨y, r⟩⟩
  · rfl
  · rfl
  · have := congrArg List.length hd
    rw [List.length_drop] at this
    simp at this
    omega
theorem firstC_mem {s : Nat} {e : Ev} : ∀ {l : List Sg}, firstC s l = some e → e.a ∈ l ∧ e.b ∈ l
  | [], h => by cases h
  | [_], h => by cases h
  | x :: y :: r, h => by
    rw [firstC] at h
    split at h
    · cases h; simp
    · obtain ⟨h1, h2⟩ := firstC_mem h
      exact ⟨List.mem_cons_of_mem _ h1, List.mem_cons_of_mem _ h2⟩
theorem findF_mem {l : List Sg} {k : Nat} {e : Ev} (h : e ∈ findF l k) : e.a ∈ l ∧ e.b ∈ l := by
  obtain ⟨s, _, hs⟩ := List.mem_filterMap.1 h
  exact firstC_mem hs
set_option maxRecDepth 100000 in
theorem run_buildEv {o : Oper} {a : Act} (x y : Sg) (s t : Operand) (ho : o.op = .build 45 #[(0, s), (1, t)]) (hs : a.eval s = x.val) (ht : a.eval t = y.val) (w : World) :
    (execOp a.eval o).run Try.prog w = .ok (.value (Ev.mk x y).val) w := by
  obtain ⟨v, sig, A, c⟩ := x
  obtain ⟨v', sig', A', c'⟩ := y
  unfold Ev.val
  rw [ev_lit]
  unfold Sg.val at hs ht
  rw [sg_lit] at hs ht
  unfold execOp
  rw [ho]
  simp only [List.map_toArray, List.map_cons, List.map_nil, hs, ht]
  go_simp
theorem info_ev : (Try.prog.info? 45).map (fun i => (i.zero, i.size, i.bytes)) = some (some (.agg zeroEc), 46, 176) := by kernel_rfl
/-- Where FindIn stands at the head of its outer loop. -/
def FindRel (l : List Sg) (w : World) (v sv : Value) (wr : World) : Prop :=
  ∃ s : Nat, s ≤ 10 ∧ sv = .int .i64 (s : Int) ∧ wr.ownsRow w.heap.size 45 46 v (findF l s).length ((findF l s).flatMap evc) ∧ Below w.heap.size w wr
/-- .. of its inner loop. -/
def FindRel2 (l : List Sg) (s : Nat) (w : World) (v fv iv : Value) (wr : World) : Prop :=
  ∃ (i : Nat) (fb : Bool) (E : List Ev), i ≤ l.length ∧ iv = .int .i64 (i : Int) ∧ fv = .bool fb ∧ wr.ownsRow w.heap.size 45 46 v E.length (E.flatMap evc) ∧ Below w.heap.size w wr
    ∧ (fb = false → E = findF l s ∧ firstC s l = firstC s (l.drop i)) ∧ (fb = true → E = findF l (s + 1))
/-- What FindIn returns. -/
def FindPost (w : World) (l : List Sg) (e : Ending) (w' : World) : Prop :=
  ∃ v : Value, e = .returned v ∧ Below w.heap.size w w' ∧ w'.ownsRow w.heap.size 45 46 v (findF l 10).length ((findF l 10).flatMap evc)

set_option maxRecDepth 100000 in
set_option maxHeartbeats 4000000 in
theorem rfindin_any (A : Option Addr) (n c : Nat) (l : List Sg) (w : World) (hn : l.length = n) (hr : Rd w w.heap.size A (l.flatMap sgc)) (hok : SgsOk w w.heap.size l) (hsmall : n ≤ 1000000) :
    Calls Try.prog 66 #[.slice A n c] w (FindPost w l) := by
  have HN := Lib.hid hn; clear hn
  have HR := Lib.hid hr; clear hr
  have HOk := Lib.hid hok; clear hok
  go_enter Try.func66, Try.ntmps66
  go_wp2
  go_loopw [3, 4] (fun v sv wr => FindRel l w v sv wr) (fun _ sv _ => 10 - (intOf sv).toNat)
  case atStart => exact ⟨0, by omega, rfl, ⟨by simp [findF], .inl ⟨by simp, rfl⟩⟩, Below.refl _ _⟩
  case round =>
    obtain ⟨s, hs, rfl, hown, hbw⟩ := hrel
    by_cases hs10 : s < 10
    · have HOwn := Lib.hid hown
      clear hown
      have ds : decide ((s : Int) < 10) = true := by simp; omega
      go_wp2
      go_loopw [3, 5, 6] (fun v fv iv wr => FindRel2 l s w v fv iv wr) (fun _ _ iv _ => n - (intOf iv).toNat)
      case atStart => exact ⟨0, false, findF l s, by omega, rfl, rfl, HOwn.out, hbw, fun _ => ⟨rfl, by rw [List.drop_zero]⟩, fun h => (by cases h)⟩
      case round =>
        clear hbw HOwn
        obtain ⟨i, fb, E, hin, rfl, rfl, hown, hbw, h1, h2⟩ := hrel
        rw [HN.out] at hin
        have HOwn := Lib.hid hown
        have H1 := Lib.hid h1
        have H2 := Lib.hid h2
        clear hown h1 h2
        cases fb with
        | true =>
          by_cases hi : i + 1 < n
          · have di : decide ((i : Int) + 1 < (n : Int)) = true := by simp; omega
            go_wp2
            go_roundw
            case rel => exact ⟨s + 1, by omega, by go_num, by rw [← H2.out rfl]; exact HOwn.out, hbw⟩
            case measure => simp [intOf]; omega
          · have di : decide ((i : Int) + 1 < (n : Int)) = false := by simp; omega
            go_wp2
            go_roundw
            case rel => exact ⟨s + 1, by omega, by go_num, by rw [← H2.out rfl]; exact HOwn.out, hbw⟩
            case measure => simp [intOf]; omega
        | false =>
          by_cases hi : i + 1 < n
          · have di : decide ((i : Int) + 1 < (n : Int)) = true := by simp; omega
            have ii : i < n := by omega
            have ij : (0 : Int) ≤ (i : Int) + 1 := by omega
            have ik : (i : Int) + 1 < (n : Int) := by omega
            have hw : IntKind.i64.wrap ((i : Int) + 1) = ((i + 1 : Nat) : Int) := IntWalk.i64_in _ (by omega)
            obtain ⟨x, hx⟩ : ∃ x, l[i]? = some x := ⟨_, List.getElem?_eq_getElem (by rw [HN.out]; omega)⟩
            obtain ⟨y, hy⟩ : ∃ y, l[i + 1]? = some y := ⟨_, List.getElem?_eq_getElem (by rw [HN.out]; omega)⟩
            obtain ⟨b, o, rfl, hb, hcell⟩ := HR.out.cells (by intro e; have := flat_length sgc 23 l (sgc_len l); rw [e, HN.out] at this; simp at this; omega)
            clear hcell
            have HRows : Hid (∀ W, Below w.heap.size w W → rowAt W b (o + i * 23) 22 = some x.vote.cells ∧ rowAt W b (o + (i + 1) * 23) 22 = some y.vote.cells ∧ W.cell? ⟨b, o + i * 23 + 4, none⟩ = some (I x.vote.signer)) :=
              fun W hW => ⟨(HR.out.below hW).sgVote hx, (HR.out.below hW).sgVote hy, (rowAt_back ((HR.out.below hW).sgVote hx)).2 4 _ rfl⟩
            have HSgs : Hid (∀ W, Below w.heap.size w W → rowAt W b (o + i * 23) 23 = some x.cells ∧ rowAt W b (o + (i + 1) * 23) 23 = some y.cells) := fun W hW => ⟨(HR.out.below hW).sgRow hx, (HR.out.below hW).sgRow hy⟩
            have HStep := Lib.hid (firstC_step (s := s) hx hy)
            have HCf : Hid (∀ W, Calls Try.prog 29 #[x.vote.val, y.vote.val] W (BoolPost W (decide (ConfP x.vote y.vote)))) := fun W => rconf_any x.vote y.vote W (HOk.out x (List.mem_of_getElem? hx)).1.1 (HOk.out y (List.mem_of_getElem? hy)).1.1
            clear hx hy
            obtain ⟨cf, hcf⟩ : ∃ cf, cf = decide (ConfP x.vote y.vote) := ⟨_, rfl⟩
            rw [← hcf] at HCf
            have HC := Lib.hid hcf
            clear hcf
            by_cases hsg : x.vote.signer = (s : Int)
            · have hsg' : (x.vote.signer == (s : Int)) = true := by rw [hsg]; simp
              have hE : Hid (E = findF l s ∧ firstC s l = firstC s (l.drop i)) := H1.out rfl
              have hEl : E.length ≤ 10 := by rw [hE.out.1]; exact Nat.le_trans (findF_len l s) (by omega)
              clear H1 H2
              go_upto_region 9 with fail
              refine wp_region_noPanic ?_
              refine wp_region_held_drew (S := fun w' => rowAt w' b (o + i * 23) 22 = some x.vote.cells ∧ rowAt w' b (o + (i + 1) * 23) 22 = some y.vote.cells ∧ w'.cell? ⟨b, o + i * 23 + 4, none⟩ = some (I x.vote.signer)) (by kernel_rfl) (HRows.out _ hbw.drew) (fun hHeld => ?_)
              refine wpAnyH_takeD (some 22) (i := 0) (v := ?vh1_0) rfl rfl (by kernel_rfl) (by kernel_rfl) (by kernel_rfl) (fun _ _ _ h => h) (by rfl) ?hh1_0 (by assumption) ?_
              case hh1_0 => (intro wq hSw; (try dsimp only at hSw); go_simp; (try (with_reducible rfl)))
              go_frame
              refine wpAnyH_takeD (some 23) (i := 1) (v := ?vh1_1) rfl rfl (by kernel_rfl) (by kernel_rfl) (by kernel_rfl) (fun _ _ _ h => h) (by rfl) ?hh1_1 (by assumption) ?_
              case hh1_1 => (intro wq hSw; (try dsimp only at hSw); go_simp; (try (with_reducible rfl)))
              go_frame
              refine wpAnyH_takeD (some 24) (i := 2) (v := ?vh1_2) rfl rfl (by kernel_rfl) (by kernel_rfl) (by kernel_rfl) (fun _ _ _ h => h) (by rfl) ?hh1_2 (by assumption) ?_
              case hh1_2 => (intro wq hSw; (try dsimp only at hSw); go_simp; (try (with_reducible rfl)))
              go_frame
              refine wpAnyH_takeD (some 25) (i := 3) (v := ?vh1_3) rfl rfl (by kernel_rfl) (by kernel_rfl) (by kernel_rfl) (fun _ _ _ h => h) (by rfl) ?hh1_3 (by assumption) ?_
              case hh1_3 => (intro wq hSw; (try dsimp only at hSw); go_simp; (try (with_reducible rfl)))
              go_frame
              refine wpAnyH_takeD (some 26) (i := 4) (v := ?vh1_4) rfl rfl (by kernel_rfl) (by kernel_rfl) (by kernel_rfl) (fun _ _ _ h => h) (by rfl) ?hh1_4 (by assumption) ?_
              case hh1_4 => (intro wq hSw; (try dsimp only at hSw); go_simp; (try (with_reducible rfl)))
              go_frame
              refine wpAnyH_takeD (some 27) (i := 5) (v := ?vh1_5) rfl rfl (by kernel_rfl) (by kernel_rfl) (by kernel_rfl) (fun _ _ _ h => h) (by rfl) ?hh1_5 (by assumption) ?_
              case hh1_5 => (intro wq hSw; (try dsimp only at hSw); go_simp; (try (with_reducible rfl)))
              go_frame
              refine wpAnyH_takeD (some 28) (i := 6) (v := ?vh1_6) rfl rfl (by kernel_rfl) (by kernel_rfl) (by kernel_rfl) (fun _ _ _ h => h) (by rfl) ?hh1_6 (by assumption) ?_
              case hh1_6 => (intro wq hSw; (try dsimp only at hSw); go_simp; (try (with_reducible rfl)))
              go_frame
              refine wpAnyH_takeD (some 29) (i := 7) (v := ?vh1_7) rfl rfl (by kernel_rfl) (by kernel_rfl) (by kernel_rfl) (fun _ _ _ h => h) (by rfl) ?hh1_7 (by assumption) ?_
              case hh1_7 => (intro wq hSw; (try dsimp only at hSw); go_simp; (try (with_reducible rfl)))
              go_frame
              refine wpAnyH_takeD (some 30) (i := 8) (v := ?vh1_8) rfl rfl (by kernel_rfl) (by kernel_rfl) (by kernel_rfl) (fun _ _ _ h => h) (by rfl) ?hh1_8 (by assumption) ?_
              case hh1_8 => (intro wq hSw; (try dsimp only at hSw); go_simp; (try (with_reducible rfl)))
              go_frame
              refine wpAnyH_takeD (some 31) (i := 9) (v := ?vh1_9) rfl rfl (by kernel_rfl) (by kernel_rfl) (by kernel_rfl) (fun _ _ _ h => h) (by rfl) ?hh1_9 (by assumption) ?_
              case hh1_9 => (intro wq hSw; (try dsimp only at hSw); go_simp; (try (with_reducible rfl)))
              go_frame
              refine wpAnyH_takeD (some 32) (i := 10) (v := ?vh1_10) rfl rfl (by kernel_rfl) (by kernel_rfl) (by kernel_rfl) (fun _ _ _ h => h) (by rfl) ?hh1_10 (by assumption) ?_
              case hh1_10 => (intro wq hSw; (try dsimp only at hSw); go_simp; (try (with_reducible rfl)))
              go_frame
              refine wpAnyH_takeD (some 33) (i := 11) (v := ?vh1_11) rfl rfl (by kernel_rfl) (by kernel_rfl) (by kernel_rfl) (fun _ _ _ h => h) (by rfl) ?hh1_11 (by assumption) ?_
              case hh1_11 => (intro wq hSw; (try dsimp only at hSw); go_simp; (try (with_reducible rfl)))
              go_frame
              refine wpAnyH_takeD (some 34) (i := 12) (v := ?vh1_12) rfl rfl (by kernel_rfl) (by kernel_rfl) (by kernel_rfl) (fun _ _ _ h => h) (by rfl) ?hh1_12 (by assumption) ?_
              case hh1_12 => (intro wq hSw; (try dsimp only at hSw); go_simp; (try (with_reducible rfl)))
              go_frame
              refine wpAnyH_takeD (some 35) (i := 13) (v := ?vh1_13) rfl rfl (by kernel_rfl) (by kernel_rfl) (by kernel_rfl) (fun _ _ _ h => h) (by rfl) ?hh1_13 (by assumption) ?_
              case hh1_13 => (intro wq hSw; (try dsimp only at hSw); go_simp; (try (with_reducible rfl)))
              go_frame
              refine wpAnyH_takeD (some 36) (i := 14) (v := ?vh1_14) rfl rfl (by kernel_rfl) (by kernel_rfl) (by kernel_rfl) (fun _ _ _ h => h) (by rfl) ?hh1_14 (by assumption) ?_
              case hh1_14 => (intro wq hSw; (try dsimp only at hSw); go_simp; (try (with_reducible rfl)))
              go_frame
              refine wpAnyH_takeD (some 37) (i := 15) (v := ?vh1_15) rfl rfl (by kernel_rfl) (by kernel_rfl) (by kernel_rfl) (fun _ _ _ h => h) (by rfl) ?hh1_15 (by assumption) ?_
              case hh1_15 => (intro wq hSw; (try dsimp only at hSw); go_simp; (try (with_reducible rfl)))
              go_frame
              refine wpAnyH_takeD (some 38) (i := 16) (v := ?vh1_16) rfl rfl (by kernel_rfl) (by kernel_rfl) (by kernel_rfl) (fun _ _ _ h => h) (by rfl) ?hh1_16 (by assumption) ?_
              case hh1_16 => (intro wq hSw; (try dsimp only at hSw); go_simp; (try (with_reducible rfl)))
              go_frame
              refine wpAnyH_takeD (some 39) (i := 17) (v := ?vh1_17) rfl rfl (by kernel_rfl) (by kernel_rfl) (by kernel_rfl) (fun _ _ _ h => h) (by rfl) ?hh1_17 (by assumption) ?_
              case hh1_17 => (intro wq hSw; (try dsimp only at hSw); go_simp; (try (with_reducible rfl)))
              go_frame
              refine wpAnyH_takeD (some 40) (i := 18) (v := ?vh1_18) rfl rfl (by kernel_rfl) (by kernel_rfl) (by kernel_rfl) (fun _ _ _ h => h) (by rfl) ?hh1_18 (by assumption) ?_
              case hh1_18 => (intro wq hSw; (try dsimp only at hSw); go_simp; (try (with_reducible rfl)))
              go_frame
              refine wpAnyH_takeD (some 41) (i := 19) (v := ?vh1_19) rfl rfl (by kernel_rfl) (by kernel_rfl) (by kernel_rfl) (fun _ _ _ h => h) (by rfl) ?hh1_19 (by assumption) ?_
              case hh1_19 => (intro wq hSw; (try dsimp only at hSw); go_simp; (try (with_reducible rfl)))
              go_frame
              refine wpAnyH_ready (rs := [20]) (by kernel_rfl) (by simp) ?_
              refine AllReadyH.cons rfl (fun K hK => ?_) AllReadyH.nil
              go_simp
              refine (HCf.out _).mono ?_; rintro en w2 ⟨rfl, hb2⟩; have hbw2 := hbw.drew.trans (hb2.mono hbw.size); have HOwn2 := Lib.hid (own_below (own_drew HOwn.out) hb2 (Nat.le_refl _))
              go_wp2_with fail
              refine hK.out _ _ (HRows.out _ hbw2) (fun hHeld => ?_)
              clear hK K
              try go_frame
              refine wpAnyH_takeD (some 43) (i := 21) (v := ?vh1_21) rfl rfl (by kernel_rfl) (by kernel_rfl) (by kernel_rfl) (fun _ _ _ h => h) (by rfl) ?hh1_21 (by assumption) ?_
              case hh1_21 => (intro wq hSw; (try dsimp only at hSw); go_simp; (try (with_reducible rfl)))
              go_frame
              refine wpAnyH_done (by kernel_rfl) ?_ _
              refine NoPanic.normal ?_
              cases cf with
              | true =>
                go_upto_region 10 with fail
                refine wp_region_noPanic ?_
                refine wp_region_held_drew (S := fun w' => rowAt w' b (o + i * 23) 23 = some x.cells ∧ rowAt w' b (o + (i + 1) * 23) 23 = some y.cells) (by kernel_rfl) (HSgs.out _ hbw2.drew) (fun hHeld => ?_)
                refine wpAnyH_takeD (some 44) (i := 0) (v := ?vh2_0) rfl rfl (by kernel_rfl) (by kernel_rfl) (by kernel_rfl) (fun _ _ _ h => h) (by rfl) ?hh2_0 (by assumption) ?_
                case hh2_0 => (intro wq hSw; (try dsimp only at hSw); go_simp; (try (with_reducible rfl)))
                go_frame
                refine wpAnyH_takeD (some 45) (i := 1) (v := ?vh2_1) rfl rfl (by kernel_rfl) (by kernel_rfl) (by kernel_rfl) (fun _ _ _ h => h) (by rfl) ?hh2_1 (by assumption) ?_
                case hh2_1 => (intro wq hSw; (try dsimp only at hSw); go_simp; (try (with_reducible rfl)))
                go_frame
                refine wpAnyH_takeD (some 46) (i := 2) (v := ?vh2_2) rfl rfl (by kernel_rfl) (by kernel_rfl) (by kernel_rfl) (fun _ _ _ h => h) (by rfl) ?hh2_2 (by assumption) ?_
                case hh2_2 => (intro wq hSw; (try dsimp only at hSw); go_simp; (try (with_reducible rfl)))
                go_frame
                refine wpAnyH_takeD (some 47) (i := 3) (v := ?vh2_3) rfl rfl (by kernel_rfl) (by kernel_rfl) (by kernel_rfl) (fun _ _ _ h => h) (by rfl) ?hh2_3 (by assumption) ?_
                case hh2_3 => (intro wq hSw; (try dsimp only at hSw); go_simp; (try (with_reducible rfl)))
                go_frame
                refine wpAnyH_takeD (some 48) (i := 4) (v := ?vh2_4) rfl rfl (by kernel_rfl) (by kernel_rfl) (by kernel_rfl) (fun _ _ _ h => h) (by rfl) ?hh2_4 (by assumption) ?_
                case hh2_4 => (intro wq hSw; (try dsimp only at hSw); go_simp; (try (with_reducible rfl)))
                go_frame
                refine wpAnyH_takeD (some 49) (i := 5) (v := ?vh2_5) rfl rfl (by kernel_rfl) (by kernel_rfl) (by kernel_rfl) (fun _ _ _ h => h) (by rfl) ?hh2_5 (by assumption) ?_
                case hh2_5 => (intro wq hSw; (try dsimp only at hSw); go_simp; (try (with_reducible rfl)))
                go_frame
                refine wpAnyH_takeD (some 50) (i := 6) (v := ?vh2_6) rfl rfl (by kernel_rfl) (by kernel_rfl) (by kernel_rfl) (fun _ _ _ h => h) (by rfl) ?hh2_6 (by assumption) ?_
                case hh2_6 => (intro wq hSw; (try dsimp only at hSw); go_simp; (try (with_reducible rfl)))
                go_frame
                refine wpAnyH_takeD (some 51) (i := 7) (v := ?vh2_7) rfl rfl (by kernel_rfl) (by kernel_rfl) (by kernel_rfl) (fun _ _ _ h => h) (by rfl) ?hh2_7 (by assumption) ?_
                case hh2_7 => (intro wq hSw; (try dsimp only at hSw); go_simp; (try (with_reducible rfl)))
                go_frame
                refine wpAnyH_takeD (some 52) (i := 8) (v := ?vh2_8) rfl rfl (by kernel_rfl) (by kernel_rfl) (by kernel_rfl) (fun _ _ _ h => h) (by rfl) ?hh2_8 (by assumption) ?_
                case hh2_8 => (intro wq hSw; (try dsimp only at hSw); go_simp; (try (with_reducible rfl)))
                go_frame
                refine wpAnyH_takeD (some 53) (i := 9) (v := ?vh2_9) rfl rfl (by kernel_rfl) (by kernel_rfl) (by kernel_rfl) (fun _ _ _ h => h) (by rfl) ?hh2_9 (by assumption) ?_
                case hh2_9 => (intro wq hSw; (try dsimp only at hSw); go_simp; (try (with_reducible rfl)))
                go_frame
                refine wpAnyH_takeD (some 54) (i := 10) (v := (Ev.mk x y).val) rfl rfl (by kernel_rfl) (by kernel_rfl) (by kernel_rfl) (fun _ _ _ h => h) (by rfl) (fun wq _ => run_buildEv x y (.tmp 48) (.tmp 53) rfl rfl rfl wq) (by assumption) ?_
                go_frame
                refine wpAnyH_ready (rs := [11]) (by kernel_rfl) (by simp) ?_
                refine AllReadyH.cons rfl (fun K hK => ?_) AllReadyH.nil
                rw [if_pos (by rfl)]
                refine wp_build1 (some 55) (by rfl) 22 45 (.tmp 54) (by rfl) (Ev.mk x y).cells (by rfl) Try.underlying22 (by rw [Ev.size_cells]; kernel_rfl) (by rw [Ev.size_cells]; omega) (by rw [Ev.size_cells]; omega) ?_
                refine hK.out _ _ (HSgs.out _ (hbw2.drew.alloc hbw2.size _)) (fun hHeld => ?_)
                clear hK K
                try go_frame
                refine wpAnyH_ready (rs := [12]) (by kernel_rfl) (by simp) ?_
                refine AllReadyH.cons rfl (fun K hK => ?_) AllReadyH.nil
                rw [if_pos (by rfl)]
                refine wp_appD (some 56) (by rfl) (.tmp 44) (.tmp 55) _ (by rfl) w.heap.size 45 (.agg zeroEc) 46 176 Try.underlying22 info_ev rfl (by decide) u3 E.length (E.flatMap evc) (by rfl) (own_drew HOwn2.out |>.alloc _) (w2.drew.heap.size + 1) (some ⟨w2.drew.heap.size, 0, none⟩) 1 1 (evc (Ev.mk x y)) (by rfl) (by rw [Array.length_toList, Ev.size_cells]) (Rd.mk (by omega) (fun k u hu => by rw [Nat.zero_add, (Blk.new w2.drew _ _).cell]; simpa using hu)) (fun u hu => (Ev.mk x y).one u hu) (by omega) (by unfold maxLen; omega) (by have := hbw2.size; simp; omega) ?_; intro v5 w5 hown5 hg5 hat5; have hbw5 : Below w.heap.size w w5 := below_own (hbw2.drew.alloc hbw2.size _) ((own_drew HOwn2.out).alloc _) hg5
                refine hK.out _ _ (HSgs.out _ hbw5) (fun hHeld => ?_)
                clear hK K
                try go_frame
                refine wpAnyH_takeD (some 3) (i := 13) (v := ?vh2_13) rfl rfl (by kernel_rfl) (by kernel_rfl) (by kernel_rfl) (fun _ _ _ h => h) (by rfl) ?hh2_13 (by assumption) ?_
                case hh2_13 => (intro wq hSw; (try dsimp only at hSw); go_simp; (try (with_reducible rfl)))
                go_frame
                refine wpAnyH_done (by kernel_rfl) ?_ _
                refine NoPanic.normal ?_
                have HOwn5 := Lib.hid hown5
                clear hown5 hg5 hat5
                go_wp2_with fail
                go_roundw
                case rel =>
                  refine ⟨i + 1, true, E ++ [Ev.mk x y], by rw [HN.out]; omega, by go_num, rfl, ?_, hbw5, fun h => (by cases h), fun _ => ?_⟩
                  · have h := HOwn5.out
                    rw [List.length_append, List.flatMap_append]
                    simpa using h
                  · have h := HStep.out
                    rw [if_pos ⟨hsg, of_decide_eq_true HC.out.symm⟩] at h
                    rw [findF_succ, hE.out.2, h, hE.out.1]; rfl
                case measure => simp [intOf]; omega
              | false =>
                go_wp2
                go_roundw
                case rel =>
                  refine ⟨i + 1, false, E, by rw [HN.out]; omega, by go_num, rfl, HOwn2.out, hbw2, fun _ => ⟨hE.out.1, ?_⟩, fun h => (by cases h)⟩
                  have h := HStep.out
                  rw [if_neg (fun h => of_decide_eq_false HC.out.symm h.2)] at h
                  rw [hE.out.2, h]
                case measure => simp [intOf]; omega
            · have hsg' : (x.vote.signer == (s : Int)) = false := by simpa using hsg
              go_upto_region 9 with fail
              refine wp_region_noPanic ?_
              refine wp_region_held_drew (S := fun w' => rowAt w' b (o + i * 23) 22 = some x.vote.cells ∧ rowAt w' b (o + (i + 1) * 23) 22 = some y.vote.cells ∧ w'.cell? ⟨b, o + i * 23 + 4, none⟩ = some (I x.vote.signer)) (by kernel_rfl) (HRows.out _ hbw.drew) (fun hHeld => ?_)
              refine wpAnyH_takeD (some 22) (i := 0) (v := ?vh3_0) rfl rfl (by kernel_rfl) (by kernel_rfl) (by kernel_rfl) (fun _ _ _ h => h) (by rfl) ?hh3_0 (by assumption) ?_
              case hh3_0 => (intro wq hSw; (try dsimp only at hSw); go_simp; (try (with_reducible rfl)))
              go_frame
              refine wpAnyH_takeD (some 23) (i := 1) (v := ?vh3_1) rfl rfl (by kernel_rfl) (by kernel_rfl) (by kernel_rfl) (fun _ _ _ h => h) (by rfl) ?hh3_1 (by assumption) ?_
              case hh3_1 => (intro wq hSw; (try dsimp only at hSw); go_simp; (try (with_reducible rfl)))
              go_frame
              refine wpAnyH_takeD (some 24) (i := 2) (v := ?vh3_2) rfl rfl (by kernel_rfl) (by kernel_rfl) (by kernel_rfl) (fun _ _ _ h => h) (by rfl) ?hh3_2 (by assumption) ?_
              case hh3_2 => (intro wq hSw; (try dsimp only at hSw); go_simp; (try (with_reducible rfl)))
              go_frame
              refine wpAnyH_takeD (some 25) (i := 3) (v := ?vh3_3) rfl rfl (by kernel_rfl) (by kernel_rfl) (by kernel_rfl) (fun _ _ _ h => h) (by rfl) ?hh3_3 (by assumption) ?_
              case hh3_3 => (intro wq hSw; (try dsimp only at hSw); go_simp; (try (with_reducible rfl)))
              go_frame
              refine wpAnyH_takeD (some 26) (i := 4) (v := ?vh3_4) rfl rfl (by kernel_rfl) (by kernel_rfl) (by kernel_rfl) (fun _ _ _ h => h) (by rfl) ?hh3_4 (by assumption) ?_
              case hh3_4 => (intro wq hSw; (try dsimp only at hSw); go_simp; (try (with_reducible rfl)))
              go_frame
              refine wpAnyH_takeD (some 27) (i := 5) (v := ?vh3_5) rfl rfl (by kernel_rfl) (by kernel_rfl) (by kernel_rfl) (fun _ _ _ h => h) (by rfl) ?hh3_5 (by assumption) ?_
              case hh3_5 => (intro wq hSw; (try dsimp only at hSw); go_simp; (try (with_reducible rfl)))
              go_frame
              refine wpAnyH_takeD (some 28) (i := 6) (v := ?vh3_6) rfl rfl (by kernel_rfl) (by kernel_rfl) (by kernel_rfl) (fun _ _ _ h => h) (by rfl) ?hh3_6 (by assumption) ?_
              case hh3_6 => (intro wq hSw; (try dsimp only at hSw); go_simp; (try (with_reducible rfl)))
              go_frame
              refine wpAnyH_takeD (some 29) (i := 7) (v := ?vh3_7) rfl rfl (by kernel_rfl) (by kernel_rfl) (by kernel_rfl) (fun _ _ _ h => h) (by rfl) ?hh3_7 (by assumption) ?_
              case hh3_7 => (intro wq hSw; (try dsimp only at hSw); go_simp; (try (with_reducible rfl)))
              go_frame
              refine wpAnyH_takeD (some 30) (i := 8) (v := ?vh3_8) rfl rfl (by kernel_rfl) (by kernel_rfl) (by kernel_rfl) (fun _ _ _ h => h) (by rfl) ?hh3_8 (by assumption) ?_
              case hh3_8 => (intro wq hSw; (try dsimp only at hSw); go_simp; (try (with_reducible rfl)))
              go_frame
              refine wpAnyH_skipD (some 31) (i := 9) rfl rfl (by kernel_rfl) (by kernel_rfl) (by kernel_rfl) (fun _ _ _ h => h) (by rfl) (by assumption) ?_
              go_frame
              refine wpAnyH_skipD (some 32) (i := 10) rfl rfl (by kernel_rfl) (by kernel_rfl) (by kernel_rfl) (fun _ _ _ h => h) (by rfl) (by assumption) ?_
              go_frame
              refine wpAnyH_skipD (some 33) (i := 11) rfl rfl (by kernel_rfl) (by kernel_rfl) (by kernel_rfl) (fun _ _ _ h => h) (by rfl) (by assumption) ?_
              go_frame
              refine wpAnyH_skipD (some 34) (i := 12) rfl rfl (by kernel_rfl) (by kernel_rfl) (by kernel_rfl) (fun _ _ _ h => h) (by rfl) (by assumption) ?_
              go_frame
              refine wpAnyH_skipD (some 35) (i := 13) rfl rfl (by kernel_rfl) (by kernel_rfl) (by kernel_rfl) (fun _ _ _ h => h) (by rfl) (by assumption) ?_
              go_frame
              refine wpAnyH_skipD (some 36) (i := 14) rfl rfl (by kernel_rfl) (by kernel_rfl) (by kernel_rfl) (fun _ _ _ h => h) (by rfl) (by assumption) ?_
              go_frame
              refine wpAnyH_skipD (some 37) (i := 15) rfl rfl (by kernel_rfl) (by kernel_rfl) (by kernel_rfl) (fun _ _ _ h => h) (by rfl) (by assumption) ?_
              go_frame
              refine wpAnyH_skipD (some 38) (i := 16) rfl rfl (by kernel_rfl) (by kernel_rfl) (by kernel_rfl) (fun _ _ _ h => h) (by rfl) (by assumption) ?_
              go_frame
              refine wpAnyH_skipD (some 39) (i := 17) rfl rfl (by kernel_rfl) (by kernel_rfl) (by kernel_rfl) (fun _ _ _ h => h) (by rfl) (by assumption) ?_
              go_frame
              refine wpAnyH_skipD (some 40) (i := 18) rfl rfl (by kernel_rfl) (by kernel_rfl) (by kernel_rfl) (fun _ _ _ h => h) (by rfl) (by assumption) ?_
              go_frame
              refine wpAnyH_skipD (some 41) (i := 19) rfl rfl (by kernel_rfl) (by kernel_rfl) (by kernel_rfl) (fun _ _ _ h => h) (by rfl) (by assumption) ?_
              go_frame
              refine wpAnyH_skipD (some 42) (i := 20) rfl rfl (by kernel_rfl) (by kernel_rfl) (by kernel_rfl) (fun _ _ _ h => h) (by rfl) (by assumption) ?_
              go_frame
              refine wpAnyH_takeD (some 43) (i := 21) (v := ?vh3_21) rfl rfl (by kernel_rfl) (by kernel_rfl) (by kernel_rfl) (fun _ _ _ h => h) (by rfl) ?hh3_21 (by assumption) ?_
              case hh3_21 => (intro wq hSw; (try dsimp only at hSw); go_simp; (try (with_reducible rfl)))
              go_frame
              refine wpAnyH_done (by kernel_rfl) ?_ _
              refine NoPanic.normal ?_
              go_wp2
              go_roundw
              case rel =>
                refine ⟨i + 1, false, E, by rw [HN.out]; omega, by go_num, rfl, own_drew HOwn.out, hbw.drew, fun _ => ⟨(H1.out rfl).1, ?_⟩, fun h => (by cases h)⟩
                have h := HStep.out
                rw [if_neg (fun h => hsg h.1)] at h
                rw [(H1.out rfl).2, h]
              case measure => simp [intOf]; omega
          · have di : decide ((i : Int) + 1 < (n : Int)) = false := by simp; omega
            go_wp2
            go_roundw
            case rel =>
              refine ⟨s + 1, by omega, by go_num, ?_, hbw⟩
              rw [findF_succ, (H1.out rfl).2, firstC_short (by rw [HN.out]; omega), ← (H1.out rfl).1]
              simpa using HOwn.out
            case measure => simp [intOf]; omega
    · obtain rfl : s = 10 := by omega
      go_wp2
      go_ret
      exact ⟨_, rfl, hbw, hown⟩
end Go.Proofs.Ythmecidpjlaonaa
namespace Go.Proofs.Ythmecidpjlaonaa
open Go.RowKit

theorem vfd_sub {keys : List Nm} {l : List Sg} : ∀ s ∈ vfd keys l, s ∈ l := fun _ hs => (List.mem_filter.1 hs).1
theorem vfd_all_le (keys : List Nm) (l : List Sg) : (vfd keys l).length ≤ l.length := List.length_filter_le _ _
theorem rvfd_any (K A : Option Addr) (nk ck n c : Nat) (keys : List Nm) (l : List Sg) (w : World) (hnk : keys.length = nk) (hn : l.length = n) (hK : Rd w w.heap.size K (keys.flatMap nmc)) (hr : Rd w w.heap.size A (l.flatMap sgc))
    (hok : SgsOk w w.heap.size l) (hsmall : n ≤ 1000000) : Calls Try.prog 67 #[.slice K nk ck, .slice A n c] w (CanPost w ((vfd keys l).map Sg.vs)) := by
  refine (rvfd_core K A nk ck n c keys l w (fun W => CanPost W ((vfd keys l).map Sg.vs)) hnk hn hK hr hok hsmall ?_ ?_).mono ?_
  · intro v W hb hown
    obtain ⟨A', c', rfl, h1, h2, h3, h4⟩ := own_slice hown rfl (((hok.sub vfd_sub).below hb).more hb.size)
    have hl := vfd_all_le keys l
    exact rcan_any _ A' _ c' _ W (Nat.le_refl _) rfl h1 h4 (by omega) h2 h3
  · rintro W e w' ⟨L, v, rfl, _⟩
    exact ⟨v, rfl⟩
  · rintro e w' ⟨W, hb, L, v, rfl, hb', hown, hok', he⟩
    exact ⟨L, v, rfl, hb.trans (hb'.mono hb.size), own_base hown hb.size, hok', he⟩
/-- What Find returns: the evidence in the canonical list of the votes that verify. -/
def FindsPost (w : World) (c : List VS) (e : Ending) (w' : World) : Prop :=
  ∃ (L : List Sg) (v : Value), e = .returned v ∧ Below w.heap.size w w' ∧ w'.ownsRow w.heap.size 45 46 v (findF L 10).length ((findF L 10).flatMap evc) ∧ SgsOk w' w'.heap.size L ∧ L.map Sg.vs = c

set_option maxRecDepth 100000 in
set_option maxHeartbeats 1000000 in
theorem rfind_any (K A : Option Addr) (nk ck n c : Nat) (keys : List Nm) (l : List Sg) (w : World) (hnk : keys.length = nk) (hn : l.length = n) (hK : Rd w w.heap.size K (keys.flatMap nmc)) (hr : Rd w w.heap.size A (l.flatMap sgc))
    (hok : SgsOk w w.heap.size l) (hsmall : n ≤ 1000000) : Calls Try.prog 24 #[.slice K nk ck, .slice A n c] w (FindsPost w (canF ((vfd keys l).map Sg.vs))) := by
  have h1 := rvfd_any K A nk ck n c keys l w hnk hn hK hr hok hsmall
  have hl : (canF ((vfd keys l).map Sg.vs)).length ≤ 1000000 := by
    have a := canF_len ((vfd keys l).map Sg.vs)
    have b := vfd_all_le keys l
    rw [List.length_map] at a
    omega
  obtain ⟨cl, hcl⟩ : ∃ cl, cl = canF ((vfd keys l).map Sg.vs) := ⟨_, rfl⟩
  rw [← hcl] at hl
  have H1 : Hid (Calls Try.prog 67 #[.slice K nk ck, .slice A n c] w fun e w' => ∃ (L : List Sg) (v : Value), e = .returned v ∧ Below w.heap.size w w' ∧ SlOk w' L v ∧ L.map Sg.vs = cl) := by
    refine h1.mono ?_
    rintro e w' ⟨L, v, rfl, hb, hown, hok', he⟩
    exact ⟨L, v, rfl, hb, own_slice hown rfl hok', he.trans hcl.symm⟩
  rw [← hcl]
  clear h1 hcl hK hr hok hn hnk
  go_enter Try.func24, Try.ntmps24
  go_wp2_with (go_at_call 67; refine H1.out.mono ?_; rintro en w2 ⟨L, v, rfl, hb2, ⟨A2, c2, rfl, hr2, hc2, hm2, hk2⟩, he2⟩)
  have hL : L.length ≤ 1000000 := by
    have := congrArg List.length he2
    rw [List.length_map] at this
    omega
  refine (rfindin_any A2 L.length c2 L w2 rfl hr2 hk2 hL).mono ?_
  rintro en w3 ⟨v3, rfl, hb3, hown3⟩
  go_wp2
  go_ret
  exact ⟨L, v3, rfl, hb2.trans (hb3.mono hb2.size), own_base hown3 hb2.size, (hk2.below hb3).more hb3.size, he2⟩

set_option maxRecDepth 100000 in
theorem cut10_any (A : Option Addr) (n c : Nat) (w : World) (hA : 60 < n → A ≠ none) (hc : n ≤ c) : Calls Try.prog 25 #[.slice A n c] w fun e w' => e = .returned (.slice A (min n 60) c) ∧ w' = w := by
  by_cases h : 60 < n
  · have d : decide ((60 : Int) < (n : Int)) = true := by simp; omega
    have e : min n 60 = 60 := by omega
    have k : (60 : Int) ≤ (c : Int) := by omega
    rw [e]
    clear e
    rcases A with _ | ⟨b, o, p⟩
    · exact absurd rfl (hA h)
    · go_enter Try.func25, Try.ntmps25
      go_wp2
      go_ret
      exact ⟨rfl, rfl⟩
  · have d : decide ((60 : Int) < (n : Int)) = false := by simp; omega
    have e : min n 60 = n := by omega
    rw [e]
    clear e
    go_enter Try.func25, Try.ntmps25
    go_wp2
    go_ret
    exact ⟨rfl, rfl⟩
end Go.Proofs.Ythmecidpjlaonaa
